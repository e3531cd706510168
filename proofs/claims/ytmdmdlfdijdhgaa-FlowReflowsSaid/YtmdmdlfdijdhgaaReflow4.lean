/- walks: own; flow.Reflow where there may not be so many columns -/
import Derived.Test.YtmdmdlfdijdhgaaReflow3
namespace Go.Proofs.Ytmdmdlfdijdhgaa.Mq
open Go Go.RowKit Go.Proofs

structure OwnSt where
  wi : World
  v : Value
  rs : List RowV
  k : Nat
structure OwnOk (w : World) (rows : List RowL) (s : OwnSt) : Prop where
  e1 : Ext [] w s.wi
  nest : ∀ (k : Nat) (r : RowV) (row : RowL), s.rs[k]? = some r → (rows.take s.k)[k]? = some row → Rd ECell s.wi (fun k => w.heap.size ≤ k ∧ s.v.ownBlock ≠ some k) r.A r.n r.c row.1
  conts : s.rs.map (·.cont) = (rows.take s.k).map (·.2)
  fresh : ∀ g, s.v.ownBlock = some g → w.heap.size ≤ g
  le : s.k ≤ rows.length

theorem own_c (w : World) (F : Nat → Prop) (A : Option Addr) (n c : Nat) (rows : List RowL) (hr0 : RdRows w F A n c rows) (hsz : n + sumLen rows ≤ 600) :
    Calls Try.prog 39 [.slice A n c].toArray w (RetRows w rows) := by
  have hl := hr0.len
  subst hl
  have hr := hr0.strong
  refine calls (n := 23) Try.func39 rfl Try.ntmps39 rfl ?_
  refine CW.sub (H' := SH w [] []) ?_ (Sub.refl _) (fun x hx => SH.start' _ _ hx)
  refine CW.ownNil 45 2 ?_
  refine CW.seq (CW.region ?_)
  refine RW.assign rfl rfl ?_
  refine RW.nil (EX.seq (CW.seq (CW.region ?_)))
  refine RW.assign rfl rfl ?_
  refine RW.nil (EX.seq (CW.seq (CW.seq (CW.region ?_))))
  refine RW.move rfl rfl ?_
  refine RW.lenSl Try.underlying24 rfl rfl ?_
  refine RW.move rfl rfl ?_
  refine RW.nil (EX.seq (CW.block ?_))
  -- mq: loop
  refine CW.loop (ι := OwnSt) (fun s => [(3, s.v), (6, .slice A rows.length c), (7, .int .i64 (rows.length : Int)), (8, .int .i64 (s.k : Int))]) (fun s => SH s.wi s.v.ownBlock.toList [own 45 2 s.v s.rs.length (ERow.all s.rs)]) (OwnOk w rows) (fun s => rows.length - s.k) ?_ ?_
  · refine fun w' hw' => ⟨⟨w', .slice none 0 0, [], 0⟩, ⟨hw'.ext, by simp, rfl, by simp [Value.ownBlock], Nat.zero_le _⟩, (by repeat (first | exact Sub.nil | refine Sub.cons (by rfl) ?_)), ?_⟩
    exact hw'.only Has.head (own_nodup _ _ _ _ _)
  · rintro ⟨wi, v, rs, k⟩ ⟨e1, nest, conts, fresh, hle⟩
    dsimp only at e1 nest conts fresh hle ⊢
    have hrl := congrArg List.length conts
    simp only [List.length_map, List.length_take] at hrl
    have hr1 := hr.ext e1 (by simp)
    refine CW.seq (CW.region ?_)
    refine RW.lss rfl rfl rfl ?_
    refine RW.nil (EX.seq (CW.seq ?_))
    -- mq: cond
    first | refine CW.condD rfl (fun hlt => ?_) (fun hlt => ?_) | refine CW.cond rfl (fun hlt => ?_) (fun hlt => ?_)
    · skip
      obtain ⟨row, hrow⟩ : ∃ row, rows[k]? = some row := ⟨rows[k]'(by omega), List.getElem?_eq_getElem _⟩
      obtain ⟨ad, B, m, d, hA, had, hcell, hrd⟩ := hr1.at_ hrow
      have hm := hrd.len
      have hrm := mem_sumLen0 (List.mem_of_getElem? hrow)
      have hin : ∀ k, k < w.heap.size → k ∉ v.ownBlock.toList := fun k hk hk2 => by have := fresh k (Option.mem_toList.1 hk2); omega
      refine CW.skip (EX.seq (CW.seq (CW.block (CW.seq (CW.region ?_)))))
      refine RW.ixAddr sl24 rfl rfl rfl (by first | rfl | assumption) (by rfl) (by omega) ?_
      refine RW.loadA ag45 rfl rfl (rfl) (fun w' hw' j u hj => hw'.base_cell (hcell j u hj) (by rw [block_add, block_add]; exact hin _ had.2)) ?_
      refine RW.allocA ag45 rfl (fun g5 hg5 hf5 => ?_)
      refine RW.storeA ag45 rfl rfl (by first | exact Upd.head | exact Upd.tail Upd.head | exact Upd.tail (Upd.tail Upd.head) | exact Upd.tail (Upd.tail (Upd.tail Upd.head)) | exact Upd.tail (Upd.tail (Upd.tail (Upd.tail Upd.head))) | exact Upd.tail (Upd.tail (Upd.tail (Upd.tail (Upd.tail Upd.head)))) | exact Upd.tail (Upd.tail (Upd.tail (Upd.tail (Upd.tail (Upd.tail Upd.head)))))) (by first | rfl | exact Enc.len _ _) (by repeat (first | exact Ones.nil | exact Enc.ones _ _ | refine Ones.cons rfl ?_)) (by first | exact Nat.le_of_ble_eq_true rfl | (simp only [Enc.len]; decide)) ?_
      refine RW.nil (EX.seq ?_)
      -- mq: draw op 3: ('Op.call', ('Call.mk', ('Callee.builtin', 'Builtin.append'), ('arr', ('Operand.const', ('Value.slice', 'none', '0', '0')), ('Operand.tmp', '14')), ('arr', '22', '22'))) -> slot 15 ("flow.go:148")
      refine CW.drawS [true, true, true, false, true, true, false, false, false, false] 3 (fun w' => w'.cell? ⟨g5, 0, none⟩ = some (.slice B m d) ∧ w'.cell? ⟨g5, 1, none⟩ = some (.bool row.2)) mixed (by kernel_rfl) (fun _ hw => hw.drew) (fun w' h => ⟨(h.blk_cell (g := g5) (o := 0) (by first | exact Has.head | exact Has.tail Has.head | exact Has.tail (Has.tail Has.head) | exact Has.tail (Has.tail (Has.tail Has.head)) | exact Has.tail (Has.tail (Has.tail (Has.tail Has.head))) | exact Has.tail (Has.tail (Has.tail (Has.tail (Has.tail Has.head)))) | exact Has.tail (Has.tail (Has.tail (Has.tail (Has.tail (Has.tail Has.head)))))) rfl), (h.blk_cell (g := g5) (o := 1) (by first | exact Has.head | exact Has.tail Has.head | exact Has.tail (Has.tail Has.head) | exact Has.tail (Has.tail (Has.tail Has.head)) | exact Has.tail (Has.tail (Has.tail (Has.tail Has.head))) | exact Has.tail (Has.tail (Has.tail (Has.tail (Has.tail Has.head)))) | exact Has.tail (Has.tail (Has.tail (Has.tail (Has.tail (Has.tail Has.head)))))) rfl)⟩) (by repeat (first | exact NoP.fin | exact NoP.jn | refine NoP.sq ?_ | refine NoP.bk ?_ | refine NoP.lp ?_)) ?_
      refine QuW.cons rfl (fun wq hq => (RW.move rfl rfl RW.jn)) ?_
      refine QuW.cons rfl (fun wq hq => (RW.fieldP fl45x0 rfl rfl RW.jn)) ?_
      refine QuW.cons rfl (fun wq hq => (RW.load1 sc22 rfl rfl (fun w1 e1 => by subst e1; exact (by rw [Addr.add_lit]; exact hq.1)) RW.jn)) ?_
      refine QuW.skip ?_
      refine QuW.cons rfl (fun wq hq => (RW.fieldP fl45x1 rfl rfl RW.jn)) ?_
      refine QuW.cons rfl (fun wq hq => (RW.load1 sc4 rfl rfl (fun w1 e1 => by subst e1; exact (by rw [Addr.add_lit]; exact hq.2)) RW.jn)) ?_
      refine QuW.skip ?_
      refine QuW.skip ?_
      refine QuW.skip ?_
      refine QuW.skip ?_
      refine QuW.nil ?_
      refine SpW.soft ?_
      refine RW.ownNil 34 8 ?_
      refine RW.appendSl (E := ECell) sl22 rfl rfl rfl (fun _ => by first | exact Upd.head | exact Upd.tail Upd.head | exact Upd.tail (Upd.tail Upd.head) | exact Upd.tail (Upd.tail (Upd.tail Upd.head)) | exact Upd.tail (Upd.tail (Upd.tail (Upd.tail Upd.head))) | exact Upd.tail (Upd.tail (Upd.tail (Upd.tail (Upd.tail Upd.head)))) | exact Upd.tail (Upd.tail (Upd.tail (Upd.tail (Upd.tail (Upd.tail Upd.head)))))) (fun w' hw' => hrd.ext hw'.ext (fun k hk => hin k hk.2)) (by simp only [maxLen]; omega) (by omega) (fun v15 hv15 => ?_)
      refine RW.formOwn (v := v15) Has.head (fun A15 c15 hv150 hcap15 hmax15 hlen15 hg15 => ?_)
      subst hv150
      rw [Nat.zero_add] at *
      refine RW.sp1 (fun w' h => ⟨(h.blk_cell (g := g5) (o := 0) (by first | exact Has.head | exact Has.tail Has.head | exact Has.tail (Has.tail Has.head) | exact Has.tail (Has.tail (Has.tail Has.head)) | exact Has.tail (Has.tail (Has.tail (Has.tail Has.head))) | exact Has.tail (Has.tail (Has.tail (Has.tail (Has.tail Has.head)))) | exact Has.tail (Has.tail (Has.tail (Has.tail (Has.tail (Has.tail Has.head)))))) rfl), (h.blk_cell (g := g5) (o := 1) (by first | exact Has.head | exact Has.tail Has.head | exact Has.tail (Has.tail Has.head) | exact Has.tail (Has.tail (Has.tail Has.head)) | exact Has.tail (Has.tail (Has.tail (Has.tail Has.head))) | exact Has.tail (Has.tail (Has.tail (Has.tail (Has.tail Has.head)))) | exact Has.tail (Has.tail (Has.tail (Has.tail (Has.tail (Has.tail Has.head)))))) rfl)⟩) ?_
      refine SpW.soft ?_
      refine RW.buildS bu45 rfl rfl rfl ?_
      refine RW.sp1 (fun w' h => ⟨(h.blk_cell (g := g5) (o := 0) (by first | exact Has.head | exact Has.tail Has.head | exact Has.tail (Has.tail Has.head) | exact Has.tail (Has.tail (Has.tail Has.head)) | exact Has.tail (Has.tail (Has.tail (Has.tail Has.head))) | exact Has.tail (Has.tail (Has.tail (Has.tail (Has.tail Has.head)))) | exact Has.tail (Has.tail (Has.tail (Has.tail (Has.tail (Has.tail Has.head)))))) rfl), (h.blk_cell (g := g5) (o := 1) (by first | exact Has.head | exact Has.tail Has.head | exact Has.tail (Has.tail Has.head) | exact Has.tail (Has.tail (Has.tail Has.head)) | exact Has.tail (Has.tail (Has.tail (Has.tail Has.head))) | exact Has.tail (Has.tail (Has.tail (Has.tail (Has.tail Has.head)))) | exact Has.tail (Has.tail (Has.tail (Has.tail (Has.tail (Has.tail Has.head)))))) rfl)⟩) ?_
      refine SpW.soft ?_
      refine RW.buildSlc sl24 rfl rfl rfl rfl (fun g19 hg19 hf19 => ?_)
      refine RW.sp1 (fun w' h => ⟨(h.blk_cell (g := g5) (o := 0) (by first | exact Has.head | exact Has.tail Has.head | exact Has.tail (Has.tail Has.head) | exact Has.tail (Has.tail (Has.tail Has.head)) | exact Has.tail (Has.tail (Has.tail (Has.tail Has.head))) | exact Has.tail (Has.tail (Has.tail (Has.tail (Has.tail Has.head)))) | exact Has.tail (Has.tail (Has.tail (Has.tail (Has.tail (Has.tail Has.head)))))) rfl), (h.blk_cell (g := g5) (o := 1) (by first | exact Has.head | exact Has.tail Has.head | exact Has.tail (Has.tail Has.head) | exact Has.tail (Has.tail (Has.tail Has.head)) | exact Has.tail (Has.tail (Has.tail (Has.tail Has.head))) | exact Has.tail (Has.tail (Has.tail (Has.tail (Has.tail Has.head)))) | exact Has.tail (Has.tail (Has.tail (Has.tail (Has.tail (Has.tail Has.head)))))) rfl)⟩) ?_
      refine SpW.hard ?_
      refine RW.append1 sl24 rfl rfl rfl (by first | exact Rem.head | exact Rem.tail Rem.head | exact Rem.tail (Rem.tail Rem.head) | exact Rem.tail (Rem.tail (Rem.tail Rem.head)) | exact Rem.tail (Rem.tail (Rem.tail (Rem.tail Rem.head))) | exact Rem.tail (Rem.tail (Rem.tail (Rem.tail (Rem.tail Rem.head)))) | exact Rem.tail (Rem.tail (Rem.tail (Rem.tail (Rem.tail (Rem.tail Rem.head)))))) (fun _ => by first | exact Upd.head | exact Upd.tail Upd.head | exact Upd.tail (Upd.tail Upd.head) | exact Upd.tail (Upd.tail (Upd.tail Upd.head)) | exact Upd.tail (Upd.tail (Upd.tail (Upd.tail Upd.head))) | exact Upd.tail (Upd.tail (Upd.tail (Upd.tail (Upd.tail Upd.head)))) | exact Upd.tail (Upd.tail (Upd.tail (Upd.tail (Upd.tail (Upd.tail Upd.head)))))) rfl (by repeat (first | exact Ones.nil | exact Enc.ones _ _ | refine Ones.cons rfl ?_)) (by simp only [maxLen]; omega) (by omega) (fun v20 hv20 => ?_)
      refine RW.assign rfl rfl ?_
      refine RW.nil (EX.bkN (EX.seq (CW.region ?_)))
      refine RW.add rfl rfl rfl (wrap64 (by omega) (by omega)) ?_
      refine RW.move rfl rfl ?_
      refine RW.nil ?_
      -- mq: loopend
      refine EX.lpW (fun w' hw' => ?_)
      have hcell' := hw'.has Has.head
      have hnd := hw'.nodup
      have hw2 := (hw'.rem Rem.head).rem Rem.head
      have hnv : ∀ g, v20.ownBlock = some g → v.ownBlock = some g ∨ wi.heap.size ≤ g := fun g hg => by
        rcases hv20 g hg with h | h
        · exact .inl h
        · exact .inr h.1
      have htk : rows.take (k + 1) = rows.take k ++ [row] := take_snoc' hrow
      have e1s := e1.size
      refine ⟨⟨w', v20, rs ++ [⟨A15, m, c15, row.2⟩], k + 1⟩, ⟨e1.trans hw'.ext (fun x hx hlt => absurd (fresh x (Option.mem_toList.1 hx)) (by omega)), fun j r row' hj hrow' => ?_, by rw [htk]; simp [conts], fun g hg => ?_, (show k + 1 ≤ rows.length by omega)⟩, (show rows.length - (k + 1) < rows.length - k by omega), (by repeat (first | exact Sub.nil | refine Sub.cons (by rfl) ?_)), ?_⟩
      · rw [htk] at hrow'
        have hj : (rs ++ [(⟨A15, m, c15, row.2⟩ : RowV)])[j]? = some r := hj
        have hrlk : rs.length = k := by omega
        have htl : (rows.take k).length = k := by rw [List.length_take]; omega
        by_cases hjk : j < rs.length
        · rw [List.getElem?_append_left hjk] at hj
          rw [List.getElem?_append_left (by omega)] at hrow'
          exact (((nest j r row' hj hrow').strong (by decide)).ext hw'.ext (fun k hk hk2 => hk.1.2 (Option.mem_toList.1 hk2))).weak (fun k hk => ⟨hk.1.1, fun hk2 => by
            rcases hnv k hk2 with h | h
            · exact hk.1.2 h
            · have := hk.2; omega⟩)
        · have hje : j = rs.length := by
            have := (List.getElem?_eq_some_iff.1 hj).1
            simp at this
            omega
          subst hje
          rw [List.getElem?_append_right (Nat.le_refl _), Nat.sub_self] at hj
          rw [List.getElem?_append_right (by omega), show rs.length - (rows.take k).length = 0 by omega] at hrow'
          simp only [List.getElem?_cons_zero, Option.some.injEq] at hj hrow'
          subst hj; subst hrow'
          obtain ⟨A6, c6, he6, hrd6⟩ := Rd.of_own (E := ECell) hcell' hm
          cases he6
          refine hrd6.weak (fun g hg => ⟨?_, fun hg2 => ?_⟩)
          · rcases hv15 g hg with h | h
            · simp [Value.ownBlock] at h
            · omega
          · rw [feet_cons, List.nodup_append] at hnd
            refine hnd.2.2 g (Option.mem_toList.2 hg) g ?_ rfl
            rw [feet_cons, feet_cons, feet_nil, List.append_nil]
            exact List.mem_append.2 (.inr (Option.mem_toList.2 hg2))
      · rcases hnv g hg with h | h
        · exact fresh g h
        · omega
      · have := hw2.only Has.head (own_nodup _ _ _ _ _)
        dsimp only
        rw [List.length_append, Enc.all_snoc]
        exact this
    · skip
      refine CW.exit (EX.seqE (EX.lpE (EX.bkE (EX.seq (CW.seq (CW.region ?_))))))
      refine RW.move rfl rfl ?_
      refine RW.assign rfl rfl ?_
      refine RW.nil (EX.seq (CW.ret ?_))
      refine EX.fin1 Try.results39 rfl (fun wz hw => ?_)
      -- mq: done
      have hkn : k = rows.length := by omega
      subst hkn
      rw [List.take_length] at conts nest
      obtain ⟨A1, c1, he1, hrd1⟩ := Rd.of_own (E := ERow) (hw.has Has.head) rfl
      cases he1
      exact ⟨_, _, _, rfl, e1.trans hw.ext (fun x hx hlt => absurd (fresh x (by simpa using hx)) (by omega)), ⟨rs, hrd1.weak (fun k hk => fresh k hk), conts, fun j r row hj hrow => ((nest j r row hj hrow).ext hw.ext (fun k hk hm => hk.2 (by simpa using hm))).weak (fun k hk => hk.1)⟩⟩
theorem ReflowNo_c (w : World) (F G : Nat → Prop) (A B : Option Addr) (n c m d : Nat) (rows : List RowL) (l : List PosV) (cols : Int) (hr0 : RdRows w F A n c rows) (hl0 : Rd EPos w G B m d l) (hsz : n + sumLen rows ≤ 600) (hm : m ≤ 40) (hc : ¬ (2 ≤ cols ∧ cols ≤ 1000)) :
    Calls Try.prog 27 [.slice A n c, .int .i64 cols, .slice B m d].toArray w (RetReflow w rows l) := by
  have hlm := hl0.len
  refine calls (n := 132) Try.func27 rfl Try.ntmps27 rfl ?_
  refine CW.sub (H' := SH w [] []) ?_ (Sub.refl _) (fun x hx => SH.start' _ _ hx)
  refine CW.ownNil 47 2 ?_
  refine CW.seq (CW.region ?_)
  refine RW.assign rfl rfl ?_
  refine RW.assign rfl rfl ?_
  refine RW.nil (EX.seq (CW.seq ?_))
  -- mq: region
  refine CW.region ?_
  refine RW.move rfl rfl ?_
  -- mq: at
  refine RW.appendSl (E := EPos) sl51 rfl rfl rfl (fun _ => by first | exact Upd.head | exact Upd.tail Upd.head | exact Upd.tail (Upd.tail Upd.head) | exact Upd.tail (Upd.tail (Upd.tail Upd.head)) | exact Upd.tail (Upd.tail (Upd.tail (Upd.tail Upd.head))) | exact Upd.tail (Upd.tail (Upd.tail (Upd.tail (Upd.tail Upd.head)))) | exact Upd.tail (Upd.tail (Upd.tail (Upd.tail (Upd.tail (Upd.tail Upd.head)))))) (fun w' hw' => hl0.ext hw'.ext (by simp)) (by simp only [maxLen]; omega) (by omega) (fun v8 hv8 => ?_)
  refine RW.assign rfl rfl ?_
  refine RW.nil (EX.seq (CW.seq (CW.seq ?_)))
  -- mq: region
  refine CW.formOwn (v := v8) Has.head (fun A8 c8 hv80 hcap8 hmax8 hlen8 hg8 => ?_)
  subst hv80
  rw [Nat.zero_add] at *
  refine CW.region ?_
  refine RW.move rfl rfl ?_
  refine RW.call rfl ca30 rfl (fun w' _ => fits_c w' _) ?_
  refine RW.not_ rfl rfl ?_
  refine RW.nil (EX.seq ?_)
  -- mq: cond
  refine CW.condT rfl ((by simp; omega)) ?_
  refine CW.seq (CW.region ?_)
  refine RW.move rfl rfl ?_
  -- mq: op 1: ('Op.call', ('Call.mk', ('Callee.value', ('Operand.func', '39')), ('arr', ('Operand.tmp', '25')), ('arr', '24'))) -> slot 26 ("flow.go:157")
  refine RW.callA (R := fun w0 => IsRows rows w0) rfl ca39 rfl (fun w' hw' => (own_c w' F A n c rows (hr0.ext hw'.ext (by simp)) hsz).mono (fun e w'' h => h.toA)) ?_
  rintro w0 w1 v hw0 he01 hw1 hlt ⟨A3, n3, c3, rfl, hrd3⟩
  refine RW.move rfl rfl ?_
  refine RW.assign rfl rfl ?_
  refine RW.assign rfl rfl ?_
  refine RW.nil (EX.seq (CW.ret (EX.seqR ?_)))
  refine EX.fin2 Try.results27 rfl rfl (fun wz hw => ?_)
  -- mq: done
  obtain ⟨A7, c7, he7, hrd7⟩ := Rd.of_own (E := EPos) (hw.has Has.head) (by simpa using hlm)
  cases he7
  have hfr : ∀ k, (Value.slice A8 m c8).ownBlock = some k → w.heap.size ≤ k := fun k hk => by
    rcases hv8 k hk with h | h
    · simp [Value.ownBlock] at h
    · exact h.1
  have hsz0 := hw0.ext.size
  refine ⟨_, _, _, _, _, _, rfl, (hw0.ext.trans0 he01).trans hw.ext (fun x hx hlt2 => ?_), (hrd3.ext hw.ext (fun k hk hk2 => by have := hlt k hk2; omega)).weak (fun k hk => by omega), hrd7.weak hfr⟩
  rw [feet_cons, feet_nil, List.append_nil] at hx
  have := hfr x (Option.mem_toList.1 hx)
  omega
end Go.Proofs.Ytmdmdlfdijdhgaa.Mq
