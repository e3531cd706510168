/- text: chapter 8 for this seat: Reflow4, Reflow5, Twice1 (printed by gen_flow.py) -/
import Derived.Test.YtjmmikdbhhomiaaFl4
namespace Go.Proofs.Ytjmmikdbhhomiaa.Mq
open Go Go.RowKit Go.Proofs

structure OwnSt where
  wi : World
  v : Value
  rs : List RowV
  k : Nat
structure OwnOk (w : World) (rows : List RowL) (s : OwnSt) : Prop where
  e1 : Ext [] w s.wi
  nest : ∀ (k : Nat) (r : RowV) (row : RowL), s.rs[k]? = some r → (rows.take s.k)[k]? = some row → Rd ECell s.wi (fun k => w.heap.size ≤ k ∧ s.v.ownBlock ≠ some k) r.A r.n r.c row.1
  conts : s.rs.map (·.cont) = (rows.take s.k).map (·.2)
  fresh : ∀ g, s.v.ownBlock = some g → w.heap.size ≤ g
  le : s.k ≤ rows.length

theorem own_c (w : World) (F : Nat → Prop) (A : Option Addr) (n c : Nat) (rows : List RowL) (hr0 : RdRows w F A n c rows) (hsz : n + sumLen rows ≤ 600) :
    Calls Try.prog 16 [.slice A n c].toArray w (RetRows w rows) := by
  have hl := hr0.len
  subst hl
  have hr := hr0.strong
  refine calls (n := 23) Try.func16 rfl Try.ntmps16 rfl ?_
  refine CW.sub (H' := SH w [] []) ?_ (Sub.refl _) (fun x hx => SH.start' _ _ hx)
  refine CW.ownNil 31 2 ?_
  refine CW.seq (CW.region ?_)
  refine RW.assign rfl rfl ?_
  refine RW.nil (EX.seq (CW.seq (CW.region ?_)))
  refine RW.assign rfl rfl ?_
  refine RW.nil (EX.seq (CW.seq (CW.seq (CW.region ?_))))
  refine RW.move rfl rfl ?_
  refine RW.lenSl Try.underlying22 rfl rfl ?_
  refine RW.move rfl rfl ?_
  refine RW.nil (EX.seq (CW.block ?_))
  -- mq: loop
  refine CW.loop (ι := OwnSt) (fun s => [(3, s.v), (6, .slice A rows.length c), (7, .int .i64 (rows.length : Int)), (8, .int .i64 (s.k : Int))]) (fun s => SH s.wi s.v.ownBlock.toList [own 31 2 s.v s.rs.length (ERow.all s.rs)]) (OwnOk w rows) (fun s => rows.length - s.k) ?_ ?_
  · refine fun w' hw' => ⟨⟨w', .slice none 0 0, [], 0⟩, ⟨hw'.ext, by simp, rfl, by simp [Value.ownBlock], Nat.zero_le _⟩, (by repeat (first | exact Sub.nil | refine Sub.cons (by rfl) ?_)), ?_⟩
    exact hw'.only Has.head (own_nodup _ _ _ _ _)
  · rintro ⟨wi, v, rs, k⟩ ⟨e1, nest, conts, fresh, hle⟩
    dsimp only at e1 nest conts fresh hle ⊢
    have hrl := congrArg List.length conts
    simp only [List.length_map, List.length_take] at hrl
    have hr1 := hr.ext e1 (by simp)
    refine CW.seq (CW.region ?_)
    refine RW.lss rfl rfl rfl ?_
    refine RW.nil (EX.seq (CW.seq ?_))
    -- mq: cond
    first | refine CW.condD rfl (fun hlt => ?_) (fun hlt => ?_) | refine CW.cond rfl (fun hlt => ?_) (fun hlt => ?_)
    · skip
      obtain ⟨row, hrow⟩ : ∃ row, rows[k]? = some row := ⟨rows[k]'(by omega), List.getElem?_eq_getElem _⟩
      obtain ⟨ad, B, m, d, hA, had, hcell, hrd⟩ := hr1.at_ hrow
      have hm := hrd.len
      have hrm := mem_sumLen0 (List.mem_of_getElem? hrow)
      have hin : ∀ k, k < w.heap.size → k ∉ v.ownBlock.toList := fun k hk hk2 => by have := fresh k (Option.mem_toList.1 hk2); omega
      refine CW.skip (EX.seq (CW.seq (CW.block (CW.seq (CW.region ?_)))))
      refine RW.ixAddr sl22 rfl rfl rfl (by first | rfl | assumption) (by rfl) (by omega) ?_
      refine RW.loadA ag31 rfl rfl (rfl) (fun w' hw' j u hj => hw'.base_cell (hcell j u hj) (by rw [block_add, block_add]; exact hin _ had.2)) ?_
      refine RW.allocA ag31 rfl (fun g5 hg5 hf5 => ?_)
      refine RW.storeA ag31 rfl rfl (by first | exact Upd.head | exact Upd.tail Upd.head | exact Upd.tail (Upd.tail Upd.head) | exact Upd.tail (Upd.tail (Upd.tail Upd.head)) | exact Upd.tail (Upd.tail (Upd.tail (Upd.tail Upd.head))) | exact Upd.tail (Upd.tail (Upd.tail (Upd.tail (Upd.tail Upd.head)))) | exact Upd.tail (Upd.tail (Upd.tail (Upd.tail (Upd.tail (Upd.tail Upd.head)))))) (by first | rfl | exact Enc.len _ _) (by repeat (first | exact Ones.nil | exact Enc.ones _ _ | refine Ones.cons rfl ?_)) (by first | exact Nat.le_of_ble_eq_true rfl | (simp only [Enc.len]; decide)) ?_
      refine RW.nil (EX.seq ?_)
      -- mq: draw op 3: ('Op.call', ('Call.mk', ('Callee.builtin', 'Builtin.append'), ('arr', ('Operand.const', ('Value.slice', 'none', '0', '0')), ('Operand.tmp', '14')), ('arr', '29', '29'))) -> slot 15 ("flow.go:148")
      refine CW.drawS [true, true, true, false, true, true, false, false, false, false] 3 (fun w' => w'.cell? ⟨g5, 0, none⟩ = some (.slice B m d) ∧ w'.cell? ⟨g5, 1, none⟩ = some (.bool row.2)) mixed (by kernel_rfl) (fun _ hw => hw.drew) (fun w' h => ⟨(h.blk_cell (g := g5) (o := 0) (by first | exact Has.head | exact Has.tail Has.head | exact Has.tail (Has.tail Has.head) | exact Has.tail (Has.tail (Has.tail Has.head)) | exact Has.tail (Has.tail (Has.tail (Has.tail Has.head))) | exact Has.tail (Has.tail (Has.tail (Has.tail (Has.tail Has.head)))) | exact Has.tail (Has.tail (Has.tail (Has.tail (Has.tail (Has.tail Has.head)))))) rfl), (h.blk_cell (g := g5) (o := 1) (by first | exact Has.head | exact Has.tail Has.head | exact Has.tail (Has.tail Has.head) | exact Has.tail (Has.tail (Has.tail Has.head)) | exact Has.tail (Has.tail (Has.tail (Has.tail Has.head))) | exact Has.tail (Has.tail (Has.tail (Has.tail (Has.tail Has.head)))) | exact Has.tail (Has.tail (Has.tail (Has.tail (Has.tail (Has.tail Has.head)))))) rfl)⟩) (by repeat (first | exact NoP.fin | exact NoP.jn | refine NoP.sq ?_ | refine NoP.bk ?_ | refine NoP.lp ?_)) ?_
      refine QuW.cons rfl (fun wq hq => (RW.move rfl rfl RW.jn)) ?_
      refine QuW.cons rfl (fun wq hq => (RW.fieldP fl31x0 rfl rfl RW.jn)) ?_
      refine QuW.cons rfl (fun wq hq => (RW.load1 sc29 rfl rfl (fun w1 e1 => by subst e1; exact (by rw [Addr.add_lit]; exact hq.1)) RW.jn)) ?_
      refine QuW.skip ?_
      refine QuW.cons rfl (fun wq hq => (RW.fieldP fl31x1 rfl rfl RW.jn)) ?_
      refine QuW.cons rfl (fun wq hq => (RW.load1 sc4 rfl rfl (fun w1 e1 => by subst e1; exact (by rw [Addr.add_lit]; exact hq.2)) RW.jn)) ?_
      refine QuW.skip ?_
      refine QuW.skip ?_
      refine QuW.skip ?_
      refine QuW.skip ?_
      refine QuW.nil ?_
      refine SpW.soft ?_
      refine RW.ownNil 37 8 ?_
      refine RW.appendSl (E := ECell) sl29 rfl rfl rfl (fun _ => by first | exact Upd.head | exact Upd.tail Upd.head | exact Upd.tail (Upd.tail Upd.head) | exact Upd.tail (Upd.tail (Upd.tail Upd.head)) | exact Upd.tail (Upd.tail (Upd.tail (Upd.tail Upd.head))) | exact Upd.tail (Upd.tail (Upd.tail (Upd.tail (Upd.tail Upd.head)))) | exact Upd.tail (Upd.tail (Upd.tail (Upd.tail (Upd.tail (Upd.tail Upd.head)))))) (fun w' hw' => hrd.ext hw'.ext (fun k hk => hin k hk.2)) (by simp only [maxLen]; omega) (by omega) (fun v15 hv15 => ?_)
      refine RW.formOwn (v := v15) Has.head (fun A15 c15 hv150 hcap15 hmax15 hlen15 hg15 => ?_)
      subst hv150
      rw [Nat.zero_add] at *
      refine RW.sp1 (fun w' h => ⟨(h.blk_cell (g := g5) (o := 0) (by first | exact Has.head | exact Has.tail Has.head | exact Has.tail (Has.tail Has.head) | exact Has.tail (Has.tail (Has.tail Has.head)) | exact Has.tail (Has.tail (Has.tail (Has.tail Has.head))) | exact Has.tail (Has.tail (Has.tail (Has.tail (Has.tail Has.head)))) | exact Has.tail (Has.tail (Has.tail (Has.tail (Has.tail (Has.tail Has.head)))))) rfl), (h.blk_cell (g := g5) (o := 1) (by first | exact Has.head | exact Has.tail Has.head | exact Has.tail (Has.tail Has.head) | exact Has.tail (Has.tail (Has.tail Has.head)) | exact Has.tail (Has.tail (Has.tail (Has.tail Has.head))) | exact Has.tail (Has.tail (Has.tail (Has.tail (Has.tail Has.head)))) | exact Has.tail (Has.tail (Has.tail (Has.tail (Has.tail (Has.tail Has.head)))))) rfl)⟩) ?_
      refine SpW.soft ?_
      refine RW.buildS bu31 rfl rfl rfl ?_
      refine RW.sp1 (fun w' h => ⟨(h.blk_cell (g := g5) (o := 0) (by first | exact Has.head | exact Has.tail Has.head | exact Has.tail (Has.tail Has.head) | exact Has.tail (Has.tail (Has.tail Has.head)) | exact Has.tail (Has.tail (Has.tail (Has.tail Has.head))) | exact Has.tail (Has.tail (Has.tail (Has.tail (Has.tail Has.head)))) | exact Has.tail (Has.tail (Has.tail (Has.tail (Has.tail (Has.tail Has.head)))))) rfl), (h.blk_cell (g := g5) (o := 1) (by first | exact Has.head | exact Has.tail Has.head | exact Has.tail (Has.tail Has.head) | exact Has.tail (Has.tail (Has.tail Has.head)) | exact Has.tail (Has.tail (Has.tail (Has.tail Has.head))) | exact Has.tail (Has.tail (Has.tail (Has.tail (Has.tail Has.head)))) | exact Has.tail (Has.tail (Has.tail (Has.tail (Has.tail (Has.tail Has.head)))))) rfl)⟩) ?_
      refine SpW.soft ?_
      refine RW.buildSlc sl22 rfl rfl rfl rfl (fun g19 hg19 hf19 => ?_)
      refine RW.sp1 (fun w' h => ⟨(h.blk_cell (g := g5) (o := 0) (by first | exact Has.head | exact Has.tail Has.head | exact Has.tail (Has.tail Has.head) | exact Has.tail (Has.tail (Has.tail Has.head)) | exact Has.tail (Has.tail (Has.tail (Has.tail Has.head))) | exact Has.tail (Has.tail (Has.tail (Has.tail (Has.tail Has.head)))) | exact Has.tail (Has.tail (Has.tail (Has.tail (Has.tail (Has.tail Has.head)))))) rfl), (h.blk_cell (g := g5) (o := 1) (by first | exact Has.head | exact Has.tail Has.head | exact Has.tail (Has.tail Has.head) | exact Has.tail (Has.tail (Has.tail Has.head)) | exact Has.tail (Has.tail (Has.tail (Has.tail Has.head))) | exact Has.tail (Has.tail (Has.tail (Has.tail (Has.tail Has.head)))) | exact Has.tail (Has.tail (Has.tail (Has.tail (Has.tail (Has.tail Has.head)))))) rfl)⟩) ?_
      refine SpW.hard ?_
      refine RW.append1 sl22 rfl rfl rfl (by first | exact Rem.head | exact Rem.tail Rem.head | exact Rem.tail (Rem.tail Rem.head) | exact Rem.tail (Rem.tail (Rem.tail Rem.head)) | exact Rem.tail (Rem.tail (Rem.tail (Rem.tail Rem.head))) | exact Rem.tail (Rem.tail (Rem.tail (Rem.tail (Rem.tail Rem.head)))) | exact Rem.tail (Rem.tail (Rem.tail (Rem.tail (Rem.tail (Rem.tail Rem.head)))))) (fun _ => by first | exact Upd.head | exact Upd.tail Upd.head | exact Upd.tail (Upd.tail Upd.head) | exact Upd.tail (Upd.tail (Upd.tail Upd.head)) | exact Upd.tail (Upd.tail (Upd.tail (Upd.tail Upd.head))) | exact Upd.tail (Upd.tail (Upd.tail (Upd.tail (Upd.tail Upd.head)))) | exact Upd.tail (Upd.tail (Upd.tail (Upd.tail (Upd.tail (Upd.tail Upd.head)))))) rfl (by repeat (first | exact Ones.nil | exact Enc.ones _ _ | refine Ones.cons rfl ?_)) (by simp only [maxLen]; omega) (by omega) (fun v20 hv20 => ?_)
      refine RW.assign rfl rfl ?_
      refine RW.nil (EX.bkN (EX.seq (CW.region ?_)))
      refine RW.add rfl rfl rfl (wrap64 (by omega) (by omega)) ?_
      refine RW.move rfl rfl ?_
      refine RW.nil ?_
      -- mq: loopend
      refine EX.lpW (fun w' hw' => ?_)
      have hcell' := hw'.has Has.head
      have hnd := hw'.nodup
      have hw2 := (hw'.rem Rem.head).rem Rem.head
      have hnv : ∀ g, v20.ownBlock = some g → v.ownBlock = some g ∨ wi.heap.size ≤ g := fun g hg => by
        rcases hv20 g hg with h | h
        · exact .inl h
        · exact .inr h.1
      have htk : rows.take (k + 1) = rows.take k ++ [row] := take_snoc' hrow
      have e1s := e1.size
      refine ⟨⟨w', v20, rs ++ [⟨A15, m, c15, row.2⟩], k + 1⟩, ⟨e1.trans hw'.ext (fun x hx hlt => absurd (fresh x (Option.mem_toList.1 hx)) (by omega)), fun j r row' hj hrow' => ?_, by rw [htk]; simp [conts], fun g hg => ?_, (show k + 1 ≤ rows.length by omega)⟩, (show rows.length - (k + 1) < rows.length - k by omega), (by repeat (first | exact Sub.nil | refine Sub.cons (by rfl) ?_)), ?_⟩
      · rw [htk] at hrow'
        have hj : (rs ++ [(⟨A15, m, c15, row.2⟩ : RowV)])[j]? = some r := hj
        have hrlk : rs.length = k := by omega
        have htl : (rows.take k).length = k := by rw [List.length_take]; omega
        by_cases hjk : j < rs.length
        · rw [List.getElem?_append_left hjk] at hj
          rw [List.getElem?_append_left (by omega)] at hrow'
          exact (((nest j r row' hj hrow').strong (by decide)).ext hw'.ext (fun k hk hk2 => hk.1.2 (Option.mem_toList.1 hk2))).weak (fun k hk => ⟨hk.1.1, fun hk2 => by
            rcases hnv k hk2 with h | h
            · exact hk.1.2 h
            · have := hk.2; omega⟩)
        · have hje : j = rs.length := by
            have := (List.getElem?_eq_some_iff.1 hj).1
            simp at this
            omega
          subst hje
          rw [List.getElem?_append_right (Nat.le_refl _), Nat.sub_self] at hj
          rw [List.getElem?_append_right (by omega), show rs.length - (rows.take k).length = 0 by omega] at hrow'
          simp only [List.getElem?_cons_zero, Option.some.injEq] at hj hrow'
          subst hj; subst hrow'
          obtain ⟨A6, c6, he6, hrd6⟩ := Rd.of_own (E := ECell) hcell' hm
          cases he6
          refine hrd6.weak (fun g hg => ⟨?_, fun hg2 => ?_⟩)
          · rcases hv15 g hg with h | h
            · simp [Value.ownBlock] at h
            · omega
          · rw [feet_cons, List.nodup_append] at hnd
            refine hnd.2.2 g (Option.mem_toList.2 hg) g ?_ rfl
            rw [feet_cons, feet_cons, feet_nil, List.append_nil]
            exact List.mem_append.2 (.inr (Option.mem_toList.2 hg2))
      · rcases hnv g hg with h | h
        · exact fresh g h
        · omega
      · have := hw2.only Has.head (own_nodup _ _ _ _ _)
        dsimp only
        rw [List.length_append, Enc.all_snoc]
        exact this
    · skip
      refine CW.exit (EX.seqE (EX.lpE (EX.bkE (EX.seq (CW.seq (CW.region ?_))))))
      refine RW.move rfl rfl ?_
      refine RW.assign rfl rfl ?_
      refine RW.nil (EX.seq (CW.ret ?_))
      refine EX.fin1 Try.results16 rfl (fun wz hw => ?_)
      -- mq: done
      have hkn : k = rows.length := by omega
      subst hkn
      rw [List.take_length] at conts nest
      obtain ⟨A1, c1, he1, hrd1⟩ := Rd.of_own (E := ERow) (hw.has Has.head) rfl
      cases he1
      exact ⟨_, _, _, rfl, e1.trans hw.ext (fun x hx hlt => absurd (fresh x (by simpa using hx)) (by omega)), ⟨rs, hrd1.weak (fun k hk => fresh k hk), conts, fun j r row hj hrow => ((nest j r row hj hrow).ext hw.ext (fun k hk hm => hk.2 (by simpa using hm))).weak (fun k hk => hk.1)⟩⟩
theorem ReflowNo_c (w : World) (F G : Nat → Prop) (A B : Option Addr) (n c m d : Nat) (rows : List RowL) (l : List PosV) (cols : Int) (hr0 : RdRows w F A n c rows) (hl0 : Rd EPos w G B m d l) (hsz : n + sumLen rows ≤ 600) (hm : m ≤ 40) (hc : ¬ (2 ≤ cols ∧ cols ≤ 1000)) :
    Calls Try.prog 8 [.slice A n c, .int .i64 cols, .slice B m d].toArray w (RetReflow w rows l) := by
  have hlm := hl0.len
  refine calls (n := 132) Try.func8 rfl Try.ntmps8 rfl ?_
  refine CW.sub (H' := SH w [] []) ?_ (Sub.refl _) (fun x hx => SH.start' _ _ hx)
  refine CW.ownNil 44 2 ?_
  refine CW.seq (CW.region ?_)
  refine RW.assign rfl rfl ?_
  refine RW.assign rfl rfl ?_
  refine RW.nil (EX.seq (CW.seq ?_))
  -- mq: region
  refine CW.region ?_
  refine RW.move rfl rfl ?_
  -- mq: at
  refine RW.appendSl (E := EPos) sl39 rfl rfl rfl (fun _ => by first | exact Upd.head | exact Upd.tail Upd.head | exact Upd.tail (Upd.tail Upd.head) | exact Upd.tail (Upd.tail (Upd.tail Upd.head)) | exact Upd.tail (Upd.tail (Upd.tail (Upd.tail Upd.head))) | exact Upd.tail (Upd.tail (Upd.tail (Upd.tail (Upd.tail Upd.head)))) | exact Upd.tail (Upd.tail (Upd.tail (Upd.tail (Upd.tail (Upd.tail Upd.head)))))) (fun w' hw' => hl0.ext hw'.ext (by simp)) (by simp only [maxLen]; omega) (by omega) (fun v8 hv8 => ?_)
  refine RW.assign rfl rfl ?_
  refine RW.nil (EX.seq (CW.seq (CW.seq ?_)))
  -- mq: region
  refine CW.formOwn (v := v8) Has.head (fun A8 c8 hv80 hcap8 hmax8 hlen8 hg8 => ?_)
  subst hv80
  rw [Nat.zero_add] at *
  refine CW.region ?_
  refine RW.move rfl rfl ?_
  refine RW.call rfl ca15 rfl (fun w' _ => fits_c w' _) ?_
  refine RW.not_ rfl rfl ?_
  refine RW.nil (EX.seq ?_)
  -- mq: cond
  refine CW.condT rfl ((by simp; omega)) ?_
  refine CW.seq (CW.region ?_)
  refine RW.move rfl rfl ?_
  -- mq: op 1: ('Op.call', ('Call.mk', ('Callee.value', ('Operand.func', '16')), ('arr', ('Operand.tmp', '25')), ('arr', '22'))) -> slot 26 ("flow.go:157")
  refine RW.callA (R := fun w0 => IsRows rows w0) rfl ca16 rfl (fun w' hw' => (own_c w' F A n c rows (hr0.ext hw'.ext (by simp)) hsz).mono (fun e w'' h => h.toA)) ?_
  rintro w0 w1 v hw0 he01 hw1 hlt ⟨A3, n3, c3, rfl, hrd3⟩
  refine RW.move rfl rfl ?_
  refine RW.assign rfl rfl ?_
  refine RW.assign rfl rfl ?_
  refine RW.nil (EX.seq (CW.ret (EX.seqR ?_)))
  refine EX.fin2 Try.results8 rfl rfl (fun wz hw => ?_)
  -- mq: done
  obtain ⟨A7, c7, he7, hrd7⟩ := Rd.of_own (E := EPos) (hw.has Has.head) (by simpa using hlm)
  cases he7
  have hfr : ∀ k, (Value.slice A8 m c8).ownBlock = some k → w.heap.size ≤ k := fun k hk => by
    rcases hv8 k hk with h | h
    · simp [Value.ownBlock] at h
    · exact h.1
  have hsz0 := hw0.ext.size
  refine ⟨_, _, _, _, _, _, rfl, (hw0.ext.trans0 he01).trans hw.ext (fun x hx hlt2 => ?_), (hrd3.ext hw.ext (fun k hk hk2 => by have := hlt k hk2; omega)).weak (fun k hk => by omega), hrd7.weak hfr⟩
  rw [feet_cons, feet_nil, List.append_nil] at hx
  have := hfr x (Option.mem_toList.1 hx)
  omega
end Go.Proofs.Ytjmmikdbhhomiaa.Mq

namespace Go.Proofs.Ytjmmikdbhhomiaa.Mq
open Go Go.RowKit Go.Proofs

def begF (rows : List RowL) (cols : Nat) : List (Int × Int) → Nat → List Int
  | [], _ => []
  | ln :: L, base => List.replicate (ln.2 - ln.1).toNat (base : Int) ++ begF rows cols L (base + (segF rows cols ln).length)
def endF (rows : List RowL) (cols : Nat) : List (Int × Int) → Nat → List Int
  | [], _ => []
  | ln :: L, base => List.replicate (ln.2 - ln.1).toNat ((base : Int) + ((segF rows cols ln).length : Int)) ++ endF rows cols L (base + (segF rows cols ln).length)
theorem begF_app (rows : List RowL) (cols : Nat) (M : List (Int × Int)) : ∀ (L : List (Int × Int)) (base : Nat), begF rows cols (L ++ M) base = begF rows cols L base ++ begF rows cols M (base + (outF rows cols L).length)
  | [], base => by simp [begF, outF]
  | x :: L, base => by
    have h : (outF rows cols (x :: L)).length = (segF rows cols x).length + (outF rows cols L).length := by simp [outF]
    rw [List.cons_append, begF, begF, begF_app rows cols M L, List.append_assoc, h, Nat.add_assoc]
theorem endF_app (rows : List RowL) (cols : Nat) (M : List (Int × Int)) : ∀ (L : List (Int × Int)) (base : Nat), endF rows cols (L ++ M) base = endF rows cols L base ++ endF rows cols M (base + (outF rows cols L).length)
  | [], base => by simp [endF, outF]
  | x :: L, base => by
    have h : (outF rows cols (x :: L)).length = (segF rows cols x).length + (outF rows cols L).length := by simp [outF]
    rw [List.cons_append, endF, endF, endF_app rows cols M L, List.append_assoc, h, Nat.add_assoc]
theorem begF_len {rows : List RowL} {cols : Nat} : ∀ (M : List (Int × Int)) (a b base : Nat), chainL rows a M b → (begF rows cols M base).length = b - a ∧ (endF rows cols M base).length = b - a
  | [], a, b, base, h => by
    have h : a = b := h
    subst h
    simp [begF, endF]
  | p :: M, a, b, base, h => by
    obtain ⟨e, rfl, h2, _, _, h5⟩ := h
    have ih := begF_len (cols := cols) M e b (base + (segF rows cols ((a : Int), (e : Int))).length) h5
    have hle := chain_le M e b h5
    rw [begF, endF, List.length_append, List.length_append, List.length_replicate, List.length_replicate, ih.1, ih.2]
    dsimp only
    omega
/-- the line that a row is in -/
theorem find_line {rows : List RowL} {n : Nat} : ∀ (L : List (Int × Int)) (a0 r : Nat), chainE rows n a0 L → a0 ≤ r → r < n →
    ∃ (L1 : List (Int × Int)) (a e : Nat) (L2 : List (Int × Int)), L = L1 ++ ((a : Int), (e : Int)) :: L2 ∧ chainL rows a0 L1 a ∧ a ≤ r ∧ r < e ∧ e ≤ n ∧ good rows a e ∧ (e < n → contAt rows e = false) ∧ chainE rows n e L2
  | [], a0, r, h, h1, h2 => by
    rcases h with ⟨_, h⟩ | ⟨M, s, h, _⟩
    · omega
    · simp at h
  | p :: L, a0, r, h, h1, h2 => by
    obtain ⟨e, rfl, h3, h4, h5, h6, h7⟩ := chainE_step h
    by_cases hre : r < e
    · exact ⟨[], a0, e, L, rfl, rfl, h1, hre, h4, h5, h6, h7⟩
    · obtain ⟨L1, a, e', L2, g1, g2, g3, g4, g5, g6, g7, g8⟩ := find_line L e r h7 (by omega) h2
      have hce : contAt rows e = false := h6 (by omega)
      exact ⟨((a0 : Int), (e : Int)) :: L1, a, e', L2, by rw [g1]; rfl, ⟨e, rfl, h3, h5, hce, g2⟩, g3, g4, g5, g6, g7, g8⟩
theorem stF_skip {rows : List RowL} {cols : Nat} {p : PosV} : ∀ (L : List (Int × Int)) (base : Nat) (acc : PosV), (∀ ln ∈ L, ¬ (ln.1 ≤ rowP p ∧ rowP p < ln.2)) → stF rows cols p L base acc = acc
  | [], _, _, _ => rfl
  | x :: L, base, acc, h => by
    rw [stF, updP, if_neg (h x (by simp)), stF_skip L _ _ (fun ln hln => h ln (by simp [hln]))]
theorem chainL_mem {rows : List RowL} : ∀ (M : List (Int × Int)) (a b : Nat), chainL rows a M b → ∀ ln ∈ M, (a : Int) ≤ ln.1 ∧ ln.2 ≤ (b : Int)
  | [], _, _, _, ln, h => by simp at h
  | p :: M, a, b, h, ln, hln => by
    obtain ⟨e, rfl, h2, _, _, h5⟩ := h
    have hle := chain_le M e b h5
    rcases List.mem_cons.1 hln with rfl | h
    · dsimp only; omega
    · have := chainL_mem M e b h5 ln h
      omega
theorem chainE_mem {rows : List RowL} {n a : Nat} {L : List (Int × Int)} (h : chainE rows n a L) : ∀ ln ∈ L, (a : Int) ≤ ln.1 := by
  rcases h with ⟨h, _⟩ | ⟨M, s, h1, h2, h3, h4⟩
  · subst h; simp
  · intro ln hln
    rw [h1] at hln
    have hle := chain_le M a s h4
    rcases List.mem_append.1 hln with h | h
    · exact (chainL_mem M a s h4 ln h).1
    · rw [List.mem_singleton.1 h]; dsimp only; omega
theorem posF_line {rows : List RowL} {cols : Nat} {p : PosV} {L1 L2 : List (Int × Int)} {a e r : Nat} (hL : linesL rows rows.length = L1 ++ ((a : Int), (e : Int)) :: L2) (h1 : chainL rows 0 L1 a) (h2 : chainE rows rows.length e L2)
    (hr : rowP p = (r : Int)) (ha : a ≤ r) (he : r < e) (hen : e ≤ rows.length) : posF rows cols p = newPos rows cols (outF rows cols L1).length ((a : Int), (e : Int)) p := by
  have hp : p.row ≤ rowP p := by unfold rowP; omega
  rw [posF, if_neg (by omega), hL]
  have hstep : ∀ (L : List (Int × Int)) (base : Nat) (acc : PosV) (M : List (Int × Int)), stF rows cols p (L ++ M) base acc = stF rows cols p M (base + (outF rows cols L).length) (stF rows cols p L base acc) := by
    intro L
    induction L with
    | nil => intro base acc M; simp [stF, outF]
    | cons x L ih =>
      intro base acc M
      have h : (outF rows cols (x :: L)).length = (segF rows cols x).length + (outF rows cols L).length := by simp [outF]
      rw [List.cons_append, stF, stF, ih, h, Nat.add_assoc]
  rw [hstep, stF_skip L1 0 p (fun ln hln => by have := (chainL_mem L1 0 a h1 ln hln).2; omega), stF, updP, if_pos (by dsimp only; omega), Nat.zero_add, stF_skip]
  intro ln hln
  have := chainE_mem h2 ln hln
  omega
end Go.Proofs.Ytjmmikdbhhomiaa.Mq

namespace Go.Proofs.Ytjmmikdbhhomiaa.Mq
open Go Go.RowKit Go.Proofs

theorem drop_zero_r {l : List CellV} (h : ∀ c ∈ l, c.r = 0) (A : List CellV) : usedL (A ++ l) = usedL A := by
  induction l generalizing A with
  | nil => simp
  | cons c l ih =>
    rw [show A ++ c :: l = (A ++ [c]) ++ l by simp, ih (fun x hx => h x (List.mem_cons_of_mem _ hx)), usedL_snoc, if_pos (h c (by simp))]
/-- what is left of a row, and what is cut -/
theorem used_parts : ∀ (n : Nat) (l : List CellV), l.length = n → ∃ t, l = trimL l ++ t ∧ (∀ c ∈ t, c.r = 0) ∧ (∀ c, (trimL l).getLast? = some c → c.r ≠ 0)
  | 0, l, h => by
    have : l = [] := List.eq_nil_of_length_eq_zero h
    subst this
    exact ⟨[], rfl, by simp, by simp [trimL]⟩
  | n + 1, l, h => by
    obtain ⟨m, c, rfl⟩ : ∃ m c, l = m ++ [c] := by
      rcases List.eq_nil_or_concat l with h2 | ⟨m, c, h2⟩
      · subst h2; simp at h
      · exact ⟨m, c, by simpa using h2⟩
    have hm : m.length = n := by simpa using h
    by_cases hc : c.r = 0
    · obtain ⟨t, h1, h2, h3⟩ := used_parts n m hm
      have ht : trimL (m ++ [c]) = trimL m := by
        unfold trimL
        rw [usedL_snoc, if_pos hc, List.take_append_of_le_length (usedL_le m)]
      refine ⟨t ++ [c], by rw [ht, ← List.append_assoc, ← h1], fun x hx => ?_, by rw [ht]; exact h3⟩
      rcases List.mem_append.1 hx with h | h
      · exact h2 x h
      · rw [List.mem_singleton.1 h]; exact hc
    · have ht : trimL (m ++ [c]) = m ++ [c] := by
        unfold trimL
        rw [usedL_snoc, if_neg hc]
        exact List.take_of_length_le (by simp)
      exact ⟨[], by rw [ht]; simp, by simp, fun x hx => by rw [ht] at hx; simp at hx; rw [← hx]; exact hc⟩
theorem pairs_r {c d : CellV} (h : pairs c d = true) : c.r = d.r := by
  simp only [pairs, pairB, Bool.and_eq_true, decide_eq_true_eq] at h
  have h2 := congrArg CellV.r h.2.2
  exact h2
theorem mend_cut (A : List CellV) : ∀ (t : List CellV), (∀ c ∈ t, c.r = 0) → (∀ c, A.getLast? = some c → c.r ≠ 0) → NoPad A → mendL (A ++ t) = A ++ t → mendL A = A := by
  induction A using mendL.induct with
  | case1 => intros; rfl
  | case2 c =>
    intro t ht hl hp hm
    have hc : c.r ≠ 0 := hl c rfl
    have h3 : c.half ≠ 3 := hp c (by simp)
    by_cases h0 : c.half = 0
    · simp [mendL, h0]
    · exfalso
      cases t with
      | nil => 
        simp only [List.append_nil, mendL, h0, h3, or_self, if_false, List.cons.injEq, and_true] at hm
        rw [← hm] at hc
        exact hc rfl
      | cons d t =>
        have hd : d.r = 0 := ht d (by simp)
        have hpr : ¬ pairs c d = true := fun h => hc ((pairs_r h).trans hd)
        rw [List.singleton_append, mendL, if_neg h0, if_neg hpr, List.cons.injEq] at hm
        have := hm.1
        rw [← this] at hc
        exact hc rfl
  | case3 c d l h ih =>
    intro t ht hl hp hm
    simp only [List.cons_append, mendL, h, if_true, List.cons.injEq, true_and] at hm
    simp only [mendL, h, if_true]
    rw [ih t ht (fun x hx => hl x (by rw [List.getLast?_cons_cons]; exact hx)) (fun x hx => hp x (List.mem_cons_of_mem _ hx)) hm]
  | case4 c d l h hpr ih =>
    intro t ht hl hp hm
    simp only [List.cons_append, mendL, h, hpr, if_true, if_false, List.cons.injEq, true_and] at hm
    simp only [mendL, h, hpr, if_true, if_false]
    rw [ih t ht (fun x hx => ?_) (fun x hx => hp x (List.mem_cons_of_mem _ (List.mem_cons_of_mem _ hx))) hm]
    cases l with
    | nil => simp at hx
    | cons y l => exact hl x (by rw [List.getLast?_cons_cons, List.getLast?_cons_cons]; exact hx)
  | case5 c d l h hpr ih =>
    intro t ht hl hp hm
    rw [List.cons_append, List.cons_append, mendL, if_neg h, if_neg hpr, List.cons.injEq] at hm
    exact absurd (by rw [← hm.1]; rfl) h
theorem noPad_trim {l : List CellV} (h : NoPad l) : NoPad (trimL l) := fun c hc => h c (List.mem_of_mem_take hc)
theorem flow_noPad (rows : List RowL) : NoPad (mendL (cellsOf rows)) := noPad_mend _ (fun c hc => by simpa using (List.mem_filter.1 hc).2)
theorem flow_again (rows : List RowL) (cols : Nat) (hc : 2 ≤ cols) : flowF (splitF (flowF rows) cols) = flowF rows := by
  have hp := flow_noPad rows
  have hb := back_law (flowF rows) cols hc (noPad_trim hp)
  rw [hb]
  generalize hM : mendL (cellsOf rows) = M at hp
  have hMM : mendL M = M := by rw [← hM, mendL_cons_mend]
  have hf : flowF rows = trimL M := by rw [flowF, hM]
  obtain ⟨t, h1, h2, h3⟩ := used_parts _ M rfl
  rw [hf, mend_cut (trimL M) t h2 h3 (noPad_trim hp) (by rw [← h1]; exact hMM)]
  obtain ⟨t2, g1, g2, g3⟩ := used_parts _ (trimL M) rfl
  have hu : usedL (trimL M) = usedL M := by
    conv => rhs; rw [h1]
    rw [drop_zero_r h2]
  rw [trimL, hu, trimL, List.take_take, Nat.min_self]
/-- lines of reflowed rows -/
def shiftL (rows : List RowL) (cols : Nat) : List (Int × Int) → Nat → List (Int × Int)
  | [], _ => []
  | ln :: L, base => ((base : Int), ((base + (segF rows cols ln).length : Nat) : Int)) :: shiftL rows cols L (base + (segF rows cols ln).length)
theorem shiftL_snoc (rows : List RowL) (cols : Nat) (ln : Int × Int) : ∀ (L : List (Int × Int)) (base : Nat),
    shiftL rows cols (L ++ [ln]) base = shiftL rows cols L base ++ [(((base + (outF rows cols L).length : Nat) : Int), ((base + (outF rows cols L).length + (segF rows cols ln).length : Nat) : Int))]
  | [], base => by simp [shiftL, outF]
  | x :: L, base => by
    have h : (outF rows cols (x :: L)).length = (segF rows cols x).length + (outF rows cols L).length := by simp [outF]
    rw [List.cons_append, shiftL, shiftL_snoc rows cols ln L, h, shiftL, List.cons_append, Nat.add_assoc base]
theorem splitAux_cont : ∀ (f : Nat) (left : List CellV) (cols : Nat) (cont : Bool) (k : Nat), 1 ≤ k → k < (splitAux f left cols cont).length → contAt (splitAux f left cols cont) k = true
  | 0, _, _, _, k, h1, h2 => by simp [splitAux] at h2
  | f + 1, left, cols, cont, k, h1, h2 => by
    rw [splitAux] at h2 ⊢
    split at h2
    · simp at h2; omega
    · rename_i hr
      rw [if_neg hr]
      simp only [List.length_cons] at h2
      obtain ⟨k, rfl⟩ : ∃ j, k = j + 1 := ⟨k - 1, by omega⟩
      have h : contAt ((rowOf left cols, cont) :: splitAux f (restOf left cols) cols true) (k + 1) = contAt (splitAux f (restOf left cols) cols true) k := by simp [contAt]
      rw [h]
      by_cases hk : k = 0
      · subst hk
        cases f with
        | zero => simp [splitAux] at h2
        | succ f => simp [splitAux, contAt]
      · exact splitAux_cont f _ cols true k (by omega) (by omega)
theorem splitF_cont (l : List CellV) (cols : Nat) : 1 ≤ (splitF l cols).length ∧ contAt (splitF l cols) 0 = false ∧ ∀ k, 1 ≤ k → k < (splitF l cols).length → contAt (splitF l cols) k = true :=
  ⟨by rw [splitF, splitAux]; simp, by rw [splitF, splitAux]; simp [contAt], fun k h1 h2 => splitAux_cont _ _ _ _ k h1 h2⟩
theorem contAt_app_left {a b : List RowL} {k : Nat} (h : k < a.length) : contAt (a ++ b) k = contAt a k := by rw [contAt, contAt, List.getElem?_append_left h]
theorem contAt_app_right {a b : List RowL} {k : Nat} : contAt (a ++ b) (a.length + k) = contAt b k := by rw [contAt, contAt, List.getElem?_append_right (by omega)]; simp
theorem linesL_app {a b : List RowL} : ∀ (k : Nat), k ≤ a.length → linesL (a ++ b) k = linesL a k
  | 0, _ => rfl
  | k + 1, h => by rw [linesL, linesL, linesL_app k (by omega), contAt_app_left (by omega)]
theorem lines_seg {out seg : List RowL} (h0 : contAt seg 0 = false) (h1 : ∀ k, 1 ≤ k → k < seg.length → contAt seg k = true) : ∀ (j : Nat), 1 ≤ j → j ≤ seg.length →
    linesL (out ++ seg) (out.length + j) = linesL out out.length ++ [((out.length : Int), ((out.length + j : Nat) : Int))]
  | 0, h, _ => by omega
  | j + 1, _, hj => by
    have e : out.length + (j + 1) = (out.length + j) + 1 := by omega
    rw [e, linesL, contAt_app_right]
    by_cases h : j = 0
    · subst h
      rw [Nat.add_zero, linesL_app _ (Nat.le_refl _), h0, linesStep]
      cases hl : (linesL out out.length).getLast? with
      | none => 
        have : linesL out out.length = [] := by simpa using hl
        simp [this]
      | some p => simp
    · rw [lines_seg h0 h1 j (by omega) (by omega), h1 j (by omega) (by omega), linesStep]
      simp
theorem lines_out (rows : List RowL) (cols : Nat) (L : List (Int × Int)) : linesL (outF rows cols L) (outF rows cols L).length = shiftL rows cols L 0 := by
  have key : ∀ (n : Nat) (L : List (Int × Int)), L.length = n → linesL (outF rows cols L) (outF rows cols L).length = shiftL rows cols L 0 := by
    intro n
    induction n with
    | zero =>
      intro L h
      have : L = [] := List.eq_nil_of_length_eq_zero h
      subst this
      rfl
    | succ n ih =>
      intro L h
      obtain ⟨M, ln, rfl⟩ : ∃ M ln, L = M ++ [ln] := by
        rcases List.eq_nil_or_concat L with h2 | ⟨m, c, h2⟩
        · subst h2; simp at h
        · exact ⟨m, c, by simpa using h2⟩
      obtain ⟨g1, g2, g3⟩ := splitF_cont (flowF (segOld rows ln)) cols
      have e : segF rows cols ln = splitF (flowF (segOld rows ln)) cols := rfl
      rw [← e] at g1 g2 g3
      rw [outF_snoc, List.length_append, lines_seg g2 g3 _ g1 (Nat.le_refl _), ih M (by simpa using h), shiftL_snoc, Nat.zero_add]
  exact key _ L rfl
theorem shift_flow (rows : List RowL) (cols : Nat) (hc : 2 ≤ cols) : ∀ (L : List (Int × Int)) (P Q : List RowL), (shiftL rows cols L P.length).map (fun ln => flowF (segOld (P ++ outF rows cols L ++ Q) ln)) = L.map (fun ln => flowF (segOld rows ln))
  | [], P, Q => rfl
  | ln :: L, P, Q => by
    have h : outF rows cols (ln :: L) = segF rows cols ln ++ outF rows cols L := by simp [outF]
    have e : P ++ outF rows cols (ln :: L) ++ Q = (P ++ segF rows cols ln) ++ outF rows cols L ++ Q := by rw [h]; simp [List.append_assoc]
    have ih := shift_flow rows cols hc L (P ++ segF rows cols ln) Q
    rw [List.length_append] at ih
    rw [shiftL, List.map_cons, List.map_cons, e, ih]
    congr 1
    have hs : segOld ((P ++ segF rows cols ln) ++ outF rows cols L ++ Q) ((P.length : Int), ((P.length + (segF rows cols ln).length : Nat) : Int)) = segF rows cols ln := by
      have h1 : ((P ++ segF rows cols ln) ++ outF rows cols L ++ Q) = (P ++ segF rows cols ln) ++ (outF rows cols L ++ Q) := by simp [List.append_assoc]
      rw [segOld, h1]
      simp only [Int.toNat_natCast]
      rw [List.take_append_of_le_length (by simp), List.take_of_length_le (by simp), List.drop_append_of_le_length (by simp), List.drop_length, List.nil_append]
    rw [hs]
    exact flow_again _ _ hc
theorem outF_flow (rows : List RowL) (cols : Nat) (L : List (Int × Int)) : outF rows cols L = (L.map (fun ln => flowF (segOld rows ln))).flatMap (fun f => splitF f cols) := by
  rw [outF, List.flatMap_map]
  rfl
/-- reflowed twice is reflowed at once -/
theorem twice_law (rows : List RowL) (x y : Nat) (hx : 2 ≤ x) :
    outF (outF rows x (linesL rows rows.length)) y (linesL (outF rows x (linesL rows rows.length)) (outF rows x (linesL rows rows.length)).length) = outF rows y (linesL rows rows.length) := by
  have h := shift_flow rows x hx (linesL rows rows.length) [] []
  simp only [List.nil_append, List.append_nil, List.length_nil] at h
  rw [lines_out, outF_flow, h, ← outF_flow]
theorem twice_flow (rows : List RowL) (x F : Nat) (hx : 2 ≤ x) (hF : ∀ ln, (flowF (segOld rows ln)).length ≤ F) :
    ∀ ln ∈ linesL (outF rows x (linesL rows rows.length)) (outF rows x (linesL rows rows.length)).length, (flowF (segOld (outF rows x (linesL rows rows.length)) ln)).length ≤ F := by
  intro ln hln
  have h := shift_flow rows x hx (linesL rows rows.length) [] []
  simp only [List.nil_append, List.append_nil, List.length_nil] at h
  rw [lines_out] at hln
  have hm := List.mem_map_of_mem (f := fun ln => flowF (segOld (outF rows x (linesL rows rows.length)) ln)) hln
  rw [h] at hm
  obtain ⟨ln2, _, h2⟩ := List.mem_map.1 hm
  rw [← h2]
  exact hF ln2
theorem outF_sum (rows : List RowL) (cols : Nat) : ∀ (L : List (Int × Int)), sumLen (outF rows cols L) = (outF rows cols L).length * cols
  | [] => by simp [outF, sumLen]
  | ln :: L => by
    have h : outF rows cols (ln :: L) = segF rows cols ln ++ outF rows cols L := by simp [outF]
    rw [h, sumLen_app, outF_sum rows cols L, List.length_append, Nat.add_mul, segF, splitF, splitAux_sum]
end Go.Proofs.Ytjmmikdbhhomiaa.Mq
