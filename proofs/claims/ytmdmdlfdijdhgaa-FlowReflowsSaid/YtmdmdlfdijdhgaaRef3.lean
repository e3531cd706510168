/- walk of the reference's Split -/
import Derived.Test.YtmdmdlfdijdhgaaLaw2
import Derived.Test.YtmdmdlfdijdhgaaCallA
import Derived.Test.YtmdmdlfdijdhgaaRef1
namespace Go.Proofs.Ytmdmdlfdijdhgaa.Mq
open Go Go.RowKit Go.Proofs

/-- what stands in memory in the second loop -/
abbrev chunksR (v : Value) (rs : List RowV) (A : Option Addr) (C : Nat) (cont : Bool) (cur : List CellV) : List Chunk :=
  [own 34 8 (.slice A cur.length C) cur.length (ECell.all cur), own 45 2 v (rs.length + 1) (ERow.all (rs ++ [⟨A, cur.length, C, cont⟩]))]
def HPad (wi : World) (S : List Nat) (v : Value) (rs : List RowV) (cont : Bool) (cur : List CellV) : World → Prop := fun w' =>
  ∃ A C, (∀ g, (Value.slice A cur.length C).ownBlock = some g → g ∈ S ∨ wi.heap.size ≤ g) ∧ SH wi S (chunksR v rs A C cont cur) w'
theorem CW.pad {P : Program} {n : Nat} {Q : Post} {l : Fr} {c : Code} {wi : World} {S : List Nat} {v : Value} {rs : List RowV} {cont : Bool} {cur : List CellV}
    (h : ∀ A C, (∀ g, (Value.slice A cur.length C).ownBlock = some g → g ∈ S ∨ wi.heap.size ≤ g) → CW P n c Q l (SH wi S (chunksR v rs A C cont cur))) : CW P n c Q l (HPad wi S v rs cont cur) := by
  rintro w ⟨A, C, hf, hw⟩
  exact h A C hf w hw
structure RefSt where
  wi : World
  v : Value
  rs : List RowV
  A : Option Addr
  C : Nat
  dn : List RowL
  cur : List CellV
  rest : List CellV
  i : Nat
abbrev RefSt.cs (s : RefSt) : List Chunk := chunksR s.v s.rs s.A s.C (decide (s.dn ≠ [])) s.cur
structure RefOk (w : World) (cols L0 : Nat) (pl : List CellV) (A5 : Option Addr) (n5 c5 : Nat) (total : List RowL) (s : RefSt) : Prop where
  e1 : Ext [] w s.wi
  nest : ∀ (k : Nat) (r : RowV) (row : RowL), s.rs[k]? = some r → s.dn[k]? = some row → Rd ECell s.wi (fun k => w.heap.size ≤ k ∧ k ∉ feet s.cs) r.A r.n r.c row.1
  conts : s.rs.map (·.cont) = s.dn.map (·.2)
  plR : Rd ECell s.wi (fun k => w.heap.size ≤ k ∧ k ∉ feet s.cs) A5 n5 c5 pl
  fresh : ∀ g ∈ feet s.cs, w.heap.size ≤ g
  at_ : s.i + s.rest.length = n5 ∧ s.rest = pl.drop s.i
  spec : total = goR cols s.dn s.cur s.rest
  curl : s.cur.length ≤ cols
  size : s.dn.length ≤ s.i

theorem ref_ok_push {w : World} {cols L0 : Nat} {pl : List CellV} {A5 : Option Addr} {n5 c5 : Nat} {total : List RowL} {wi w' : World} {S : List Nat} {v v' : Value} {rs : List RowV} {A' A3 : Option Addr} {C' C3 : Nat} {dn : List RowL} {cur cur' : List CellV} {rest : List CellV} {cont : Bool} {i : Nat}
    (hcn : decide (dn ≠ []) = cont) (_hS : feet (chunksR v rs A' C' cont cur) = S) (e1 : Ext [] w wi)
    (nest : ∀ (k : Nat) (r : RowV) (row : RowL), rs[k]? = some r → dn[k]? = some row → Rd ECell wi (fun k => w.heap.size ≤ k ∧ k ∉ S) r.A r.n r.c row.1)
    (conts : rs.map (·.cont) = dn.map (·.2)) (plR : Rd ECell wi (fun k => w.heap.size ≤ k ∧ k ∉ S) A5 n5 c5 pl) (fresh : ∀ g ∈ S, w.heap.size ≤ g)
    (hw : SH wi S (chunksR v' rs A3 C3 cont cur') w') (hf : ∀ g ∈ feet (chunksR v' rs A3 C3 cont cur'), g ∈ S ∨ wi.heap.size ≤ g) (at_ : i + rest.length = n5 ∧ rest = pl.drop i)
    (spec : total = goR cols dn cur' rest) (curl : cur'.length ≤ cols) (size : dn.length ≤ i) : RefOk w cols L0 pl A5 n5 c5 total ⟨w', v', rs, A3, C3, dn, cur', rest, i⟩ := by
  have hin : ∀ k, k < wi.heap.size → k ∉ S → k ∉ feet (chunksR v' rs A3 C3 cont cur') := fun k h1 h2 h3 => by
    rcases hf k h3 with h | h
    · exact h2 h
    · omega
  subst hcn
  refine ⟨e1.trans hw.ext (fun x hx hlt => absurd (fresh x hx) (by omega)), fun k r row hk hr => ?_, conts, ?_, fun g hg => ?_, at_, spec, curl, size⟩
  · exact (((nest k r row hk hr).strong (by decide)).ext hw.ext (fun k hk => hk.1.2)).weak (fun k hk => ⟨hk.1.1, hin k hk.2 hk.1.2⟩)
  · exact ((plR.strong (by decide)).ext hw.ext (fun k hk => hk.1.2)).weak (fun k hk => ⟨hk.1.1, hin k hk.2 hk.1.2⟩)
  · rcases hf g hg with h | h
    · exact fresh g h
    · exact Nat.le_trans e1.size h

theorem ref_ok_break {w : World} {cols L0 : Nat} {pl : List CellV} {A5 : Option Addr} {n5 c5 : Nat} {total : List RowL} {wi w' : World} {S : List Nat} {v' : Value} {rs : List RowV} {A2 A3 : Option Addr} {C2 C3 : Nat} {dn : List RowL} {cur1 cur' : List CellV} {rest : List CellV} {cont : Bool} {i : Nat}
    (_hcn : decide (dn ≠ []) = cont) (e1 : Ext [] w wi)
    (nest : ∀ (k : Nat) (r : RowV) (row : RowL), rs[k]? = some r → dn[k]? = some row → Rd ECell wi (fun k => w.heap.size ≤ k ∧ k ∉ S) r.A r.n r.c row.1)
    (conts : rs.map (·.cont) = dn.map (·.2)) (plR : Rd ECell wi (fun k => w.heap.size ≤ k ∧ k ∉ S) A5 n5 c5 pl) (fresh : ∀ g ∈ S, w.heap.size ≤ g)
    (hw : SH wi S (chunksR v' (rs ++ [⟨A2, cur1.length, C2, cont⟩]) A3 C3 true cur') w') (hf : ∀ g ∈ feet (chunksR v' (rs ++ [⟨A2, cur1.length, C2, cont⟩]) A3 C3 true cur'), g ∈ S ∨ wi.heap.size ≤ g)
    (hold : w'.ownsRow 0 34 8 (.slice A2 cur1.length C2) cur1.length (ECell.all cur1)) (hfo : ∀ g, (Value.slice A2 cur1.length C2).ownBlock = some g → w.heap.size ≤ g ∧ g ∉ feet (chunksR v' (rs ++ [⟨A2, cur1.length, C2, cont⟩]) A3 C3 true cur'))
    (hrd : rs.length = dn.length) (at_ : i + rest.length = n5 ∧ rest = pl.drop i)
    (spec : total = goR cols (dn ++ [(cur1, cont)]) cur' rest) (curl : cur'.length ≤ cols) (size : (dn ++ [(cur1, cont)]).length ≤ i) : RefOk w cols L0 pl A5 n5 c5 total ⟨w', v', rs ++ [⟨A2, cur1.length, C2, cont⟩], A3, C3, dn ++ [(cur1, cont)], cur', rest, i⟩ := by
  have hin : ∀ k, k < wi.heap.size → k ∉ S → k ∉ feet (chunksR v' (rs ++ [⟨A2, cur1.length, C2, cont⟩]) A3 C3 true cur') := fun k h1 h2 h3 => by
    rcases hf k h3 with h | h
    · exact h2 h
    · omega
  have hct : decide (dn ++ [(cur1, cont)] ≠ []) = true := by simp
  have hcs : (RefSt.cs ⟨w', v', rs ++ [⟨A2, cur1.length, C2, cont⟩], A3, C3, dn ++ [(cur1, cont)], cur', rest, i⟩) = chunksR v' (rs ++ [⟨A2, cur1.length, C2, cont⟩]) A3 C3 true cur' := by
    show chunksR _ _ _ _ (decide (dn ++ [(cur1, cont)] ≠ [])) _ = _
    rw [hct]
  refine ⟨e1.trans hw.ext (fun x hx hlt => absurd (fresh x hx) (by omega)), fun k r row hk hr => ?_, ?_, ?_, fun g hg => ?_, at_, spec, curl, size⟩
  · rw [hcs]
    by_cases hkl : k < rs.length
    · have hk : (rs ++ [(⟨A2, cur1.length, C2, cont⟩ : RowV)])[k]? = some r := hk
      have hr : (dn ++ [(cur1, cont)])[k]? = some row := hr
      rw [List.getElem?_append_left hkl] at hk
      rw [List.getElem?_append_left (by omega)] at hr
      exact (((nest k r row hk hr).strong (by decide)).ext hw.ext (fun k hk => hk.1.2)).weak (fun k hk => ⟨hk.1.1, hin k hk.2 hk.1.2⟩)
    · have hk : (rs ++ [(⟨A2, cur1.length, C2, cont⟩ : RowV)])[k]? = some r := hk
      have hr : (dn ++ [(cur1, cont)])[k]? = some row := hr
      have hke : k = rs.length := by
        have := (List.getElem?_eq_some_iff.1 hk).1
        simp at this
        omega
      subst hke
      rw [List.getElem?_append_right (Nat.le_refl _), Nat.sub_self] at hk
      rw [List.getElem?_append_right (by omega), show rs.length - dn.length = 0 by omega] at hr
      simp only [List.getElem?_cons_zero, Option.some.injEq] at hk hr
      subst hk; subst hr
      obtain ⟨A6, c6, he6, hrd6⟩ := Rd.of_own (E := ECell) hold rfl
      cases he6
      exact hrd6.weak (fun k hk => hfo k hk)
  · simp [conts]
  · rw [hcs]
    exact ((plR.strong (by decide)).ext hw.ext (fun k hk => hk.1.2)).weak (fun k hk => ⟨hk.1.1, hin k hk.2 hk.1.2⟩)
  · rw [hcs] at hg
    rcases hf g hg with h | h
    · exact fresh g h
    · exact Nat.le_trans e1.size h

theorem refSplit_c (w : World) (F : Nat → Prop) (A : Option Addr) (n c : Nat) (l : List CellV) (cols : Nat) (hr : Rd ECell w F A n c l) (hn : n ≤ 1000000) (hc1 : 2 ≤ cols) (hc2 : cols ≤ 1000) :
    Calls Try.prog 14 [.slice A n c, .int .i64 (cols : Int)].toArray w (RetRows w (splitF l cols)) := by
  have hl := hr.len
  refine calls (n := 127) Try.func14 rfl Try.ntmps14 rfl ?_
  refine CW.sub (H' := SH w [] []) ?_ (Sub.refl _) (fun x hx => SH.start' _ _ hx)
  refine CW.ownNil 34 8 ?_
  refine CW.seq (CW.region ?_)
  refine RW.assign rfl rfl ?_
  refine RW.nil (EX.seq (CW.seq (CW.region ?_)))
  refine RW.assign rfl rfl ?_
  refine RW.nil (EX.seq (CW.seq (CW.seq (CW.region ?_))))
  refine RW.assign rfl rfl ?_
  refine RW.nil (EX.seq (CW.block ?_))
  -- mq: loop
  refine CW.loop (ι := Nat × Value × List CellV) (fun i => [(0, .slice A n c), (1, .int .i64 (cols : Int)), (5, i.2.1), (6, .int .i64 (i.1 : Int))]) (fun i => SH w [] [own 34 8 i.2.1 i.2.2.length (ECell.all i.2.2)]) (fun i => i.1 ≤ n ∧ i.2.2 = (l.take i.1).map unpad) (fun i => n - i.1) ?_ ?_
  · exact fun w hw => ⟨(0, .slice none 0 0, []), ⟨Nat.zero_le _, rfl⟩, (by repeat (first | exact Sub.nil | refine Sub.cons (by rfl) ?_)), hw⟩
  · rintro ⟨j, v, L⟩ ⟨hj, hL⟩
    dsimp only at hj hL ⊢
    have hLl : L.length = j := by
      rw [hL]
      simp [List.length_take]
      omega
    refine CW.seq (CW.seq (CW.region ?_))
    refine RW.move rfl rfl ?_
    refine RW.move rfl rfl ?_
    refine RW.lenSl Try.underlying22 rfl rfl ?_
    refine RW.lss rfl rfl rfl ?_
    refine RW.nil (EX.seq ?_)
    -- mq: cond
    first | refine CW.condD rfl (fun hjt => ?_) (fun hjt => ?_) | refine CW.cond rfl (fun hjt => ?_) (fun hjt => ?_)
    · skip
      obtain ⟨x, hx⟩ : ∃ x, l[j]? = some x := ⟨l[j]'(by omega), List.getElem?_eq_getElem _⟩
      obtain ⟨bd, hB, _, hxc⟩ := hr.at_ hx
      refine CW.skip (EX.seq (CW.seq (CW.block (CW.seq (CW.region ?_)))))
      refine RW.move rfl rfl ?_
      refine RW.move rfl rfl ?_
      refine RW.ixAddr (q := j) sl22 rfl rfl rfl (by first | rfl | assumption) (by omega) (by omega) ?_
      refine RW.loadA ag34 rfl rfl (rfl) (fun w' hw' j u hj => hw'.base_cell (hxc j u hj) (by simp)) ?_
      refine RW.allocA ag34 rfl (fun g7 hg7 hf7 => ?_)
      refine RW.storeA ag34 rfl rfl (by first | exact Upd.head | exact Upd.tail Upd.head | exact Upd.tail (Upd.tail Upd.head) | exact Upd.tail (Upd.tail (Upd.tail Upd.head)) | exact Upd.tail (Upd.tail (Upd.tail (Upd.tail Upd.head))) | exact Upd.tail (Upd.tail (Upd.tail (Upd.tail (Upd.tail Upd.head)))) | exact Upd.tail (Upd.tail (Upd.tail (Upd.tail (Upd.tail (Upd.tail Upd.head)))))) (by first | rfl | exact Enc.len _ _) (by repeat (first | exact Ones.nil | exact Enc.ones _ _ | refine Ones.cons rfl ?_)) (by first | exact Nat.le_of_ble_eq_true rfl | (simp only [Enc.len]; decide)) ?_
      refine RW.nil (EX.seq (CW.seq ?_))
      -- mq: seq
      refine CW.join ([(0, .slice A n c), (1, .int .i64 (cols : Int)), (5, v), (6, .int .i64 (j : Int)), (7, .pointer (some ⟨g7, 0, none⟩))]) (SH w [] [blk g7 (unpad x).enc 34, own 34 8 v L.length (ECell.all L)]) ?_ ?_
      · skip
        refine CW.seq (CW.region ?_)
        refine RW.fieldB fl34x2 rfl rfl ?_
        refine RW.loadB1 sc3 rfl rfl (by first | exact Has.head | exact Has.tail Has.head | exact Has.tail (Has.tail Has.head) | exact Has.tail (Has.tail (Has.tail Has.head)) | exact Has.tail (Has.tail (Has.tail (Has.tail Has.head))) | exact Has.tail (Has.tail (Has.tail (Has.tail (Has.tail Has.head)))) | exact Has.tail (Has.tail (Has.tail (Has.tail (Has.tail (Has.tail Has.head)))))) rfl ?_
        refine RW.eqlI rfl rfl rfl ?_
        refine RW.nil (EX.seq ?_)
        -- mq: cond
        first | refine CW.condD rfl (fun h3 => ?_) (fun h3 => ?_) | refine CW.cond rfl (fun h3 => ?_) (fun h3 => ?_)
        · skip
          refine CW.region ?_
          refine RW.fieldB fl34x3 rfl rfl ?_
          refine RW.loadBA ag32 rfl rfl (by first | exact Has.head | exact Has.tail Has.head | exact Has.tail (Has.tail Has.head) | exact Has.tail (Has.tail (Has.tail Has.head)) | exact Has.tail (Has.tail (Has.tail (Has.tail Has.head))) | exact Has.tail (Has.tail (Has.tail (Has.tail (Has.tail Has.head)))) | exact Has.tail (Has.tail (Has.tail (Has.tail (Has.tail (Has.tail Has.head)))))) rfl rfl ?_
          refine RW.buildS bu34 rfl rfl rfl ?_
          refine RW.storeA ag34 rfl rfl (by first | exact Upd.head | exact Upd.tail Upd.head | exact Upd.tail (Upd.tail Upd.head) | exact Upd.tail (Upd.tail (Upd.tail Upd.head)) | exact Upd.tail (Upd.tail (Upd.tail (Upd.tail Upd.head))) | exact Upd.tail (Upd.tail (Upd.tail (Upd.tail (Upd.tail Upd.head)))) | exact Upd.tail (Upd.tail (Upd.tail (Upd.tail (Upd.tail (Upd.tail Upd.head)))))) (by first | rfl | exact Enc.len _ _) (by repeat (first | exact Ones.nil | exact Enc.ones _ _ | refine Ones.cons rfl ?_)) (by first | exact Nat.le_of_ble_eq_true rfl | (simp only [Enc.len]; decide)) ?_
          refine RW.nil ?_
          -- mq: joinend
          refine EX.jn (by repeat (first | exact Sub.nil | refine Sub.cons (by rfl) ?_)) (fun w' hw' => ?_)
          rw [unpad, if_pos h3]
          exact hw'
        · skip
          refine CW.skip ?_
          -- mq: joinend
          refine EX.jn (by repeat (first | exact Sub.nil | refine Sub.cons (by rfl) ?_)) (fun w' hw' => ?_)
          rw [unpad, if_neg h3]
          exact hw'
      · skip
        refine EX.seq (CW.region ?_)
        refine RW.move rfl rfl ?_
        refine RW.loadBA ag34 rfl rfl (by first | exact Has.head | exact Has.tail Has.head | exact Has.tail (Has.tail Has.head) | exact Has.tail (Has.tail (Has.tail Has.head)) | exact Has.tail (Has.tail (Has.tail (Has.tail Has.head))) | exact Has.tail (Has.tail (Has.tail (Has.tail (Has.tail Has.head)))) | exact Has.tail (Has.tail (Has.tail (Has.tail (Has.tail (Has.tail Has.head)))))) rfl rfl ?_
        refine RW.buildSlc sl22 rfl rfl rfl rfl (fun g30 hg30 hf30 => ?_)
        refine RW.append1 sl22 rfl rfl rfl (by first | exact Rem.head | exact Rem.tail Rem.head | exact Rem.tail (Rem.tail Rem.head) | exact Rem.tail (Rem.tail (Rem.tail Rem.head)) | exact Rem.tail (Rem.tail (Rem.tail (Rem.tail Rem.head))) | exact Rem.tail (Rem.tail (Rem.tail (Rem.tail (Rem.tail Rem.head)))) | exact Rem.tail (Rem.tail (Rem.tail (Rem.tail (Rem.tail (Rem.tail Rem.head)))))) (fun _ => by first | exact Upd.head | exact Upd.tail Upd.head | exact Upd.tail (Upd.tail Upd.head) | exact Upd.tail (Upd.tail (Upd.tail Upd.head)) | exact Upd.tail (Upd.tail (Upd.tail (Upd.tail Upd.head))) | exact Upd.tail (Upd.tail (Upd.tail (Upd.tail (Upd.tail Upd.head)))) | exact Upd.tail (Upd.tail (Upd.tail (Upd.tail (Upd.tail (Upd.tail Upd.head)))))) rfl (by repeat (first | exact Ones.nil | exact Enc.ones _ _ | refine Ones.cons rfl ?_)) (by simp only [maxLen]; omega) (by omega) (fun v31 hv31 => ?_)
        refine RW.assign rfl rfl ?_
        refine RW.nil (EX.bkN (EX.seq (CW.region ?_)))
        refine RW.move rfl rfl ?_
        refine RW.add rfl rfl rfl (wrap64 (by omega) (by omega)) ?_
        refine RW.assign rfl rfl ?_
        refine RW.nil ?_
        -- mq: loopend
        refine EX.lpN (j + 1, v31, L ++ [unpad x]) ⟨by omega, by rw [take_snoc' hx, List.map_append, ← hL]; rfl⟩ (by omega) (by repeat (first | exact Sub.nil | refine Sub.cons (by rfl) ?_)) (fun w' hw' => ?_)
        rw [List.length_append, Enc.all_snoc]
        exact hw'.rem Rem.head
    · skip
      have hjn : j = n := by omega
      subst hjn
      rw [List.take_of_length_le (by omega)] at hL
      refine CW.exit (EX.seqE (EX.lpE (EX.bkE (EX.seq (CW.seq (CW.region ?_))))))
      refine RW.move rfl rfl ?_
      -- mq: op 1: ('Op.call', ('Call.mk', ('Callee.value', ('Operand.func', '15')), ('arr', ('Operand.tmp', '32')), ('arr', '22'))) -> slot 33 ("ref.go:41")
      refine RW.rebase (fun w1 hw1 => ?_)
      obtain ⟨A1, c1, rfl, hrd1⟩ := Rd.of_own (E := ECell) (hw1.has Has.head) rfl
      refine RW.callR rfl ca15 rfl (fun w' hw' => refMend_c w' _ A1 L.length c1 L (hrd1.ext hw'.ext (by simp)) (by omega)) ?_
      intro w2 w3 A5 n5 c5 hw2 he3 hw3 hrd5
      have hpl : mendL L = plainF l := by rw [hL]; rfl
      rw [hpl] at hrd5
      have hm5 := hrd5.len
      rw [plainF_length] at hm5
      have he13 : Ext [] w w3 := (hw1.ext.trans0 hw2.ext).trans0 he3
      refine RW.assign rfl rfl ?_
      refine RW.nil (EX.seq (CW.seq (CW.region ?_)))
      refine RW.buildS bu45 rfl rfl rfl ?_
      refine RW.buildSlc sl24 rfl rfl rfl rfl (fun g35 hg35 hf35 => ?_)
      refine RW.assign rfl rfl ?_
      refine RW.nil (EX.seq (CW.seq (CW.seq ?_)))
      -- mq: region
      refine CW.ownBlk (m := 1) (sz := 2) (by first | exact Upd.head | exact Upd.tail Upd.head | exact Upd.tail (Upd.tail Upd.head) | exact Upd.tail (Upd.tail (Upd.tail Upd.head)) | exact Upd.tail (Upd.tail (Upd.tail (Upd.tail Upd.head))) | exact Upd.tail (Upd.tail (Upd.tail (Upd.tail (Upd.tail Upd.head)))) | exact Upd.tail (Upd.tail (Upd.tail (Upd.tail (Upd.tail (Upd.tail Upd.head)))))) rfl (by simp only [maxLen]; omega) ?_
      refine CW.ownNil 34 8 ?_
      refine CW.region ?_
      refine RW.assign rfl rfl ?_
      refine RW.nil (EX.seq (CW.block ?_))
      -- mq: loop
      have hplr := plainF_length l
      refine CW.loop (ι := RefSt) (fun s => [(1, .int .i64 (cols : Int)), (5, .slice A5 n5 c5), (8, s.v), (9, .int .i64 (s.i : Int))]) (fun s => SH s.wi (feet s.cs) s.cs) (RefOk w cols l.length (plainF l) A5 n5 c5 (splitF l cols)) (fun s => s.rest.length) ?_ ?_
      · refine fun w' hw' => ⟨⟨w', .slice (some ⟨g35, 0, none⟩) 1 1, [], none, 0, [], [], plainF l, 0⟩, ⟨he13.trans0 hw'.ext, by simp, rfl, ((hrd5.strong (by decide)).ext hw'.ext (by simp)).weak (fun k hk => ⟨Nat.le_trans (hw1.ext.trans0 hw2.ext).size hk.1, ?_⟩), ?_, ⟨by simp; omega, by simp⟩, (goR_splitF l cols hc1).symm, Nat.zero_le _, Nat.zero_le _⟩, (by repeat (first | exact Sub.nil | refine Sub.cons (by rfl) ?_)), ?_⟩
        · have := hk.2
          simp [feet, own, Value.ownBlock]
          omega
        · intro g hg
          simp [feet, own, Value.ownBlock] at hg
          subst hg
          exact Nat.le_trans he13.size hg35
        · exact hw'.rebase
      · rintro ⟨wi, v, rs, A', C', dn, cur, rest, i⟩ hok
        obtain ⟨e1, nest, conts, plR, fresh, ⟨hat1, hat2⟩, spec, curl, size⟩ := hok
        dsimp only [RefSt.cs] at e1 nest conts plR fresh hat1 hat2 spec curl size ⊢
        have hrd := congrArg List.length conts
        simp only [List.length_map] at hrd
        generalize hcn : decide (dn ≠ []) = cont at *
        generalize hS : feet (chunksR v rs A' C' cont cur) = S at *
        refine CW.formOwn (v := v) (Has.tail Has.head) (fun Ao co hv hcap hmax hlen hg => ?_)
        subst hv
        obtain ⟨go, rfl⟩ := hg (by omega)
        have hslot : (rs ++ [(⟨A', cur.length, C', cont⟩ : RowV)])[rs.length]? = some ⟨A', cur.length, C', cont⟩ := by simp
        refine CW.seq (CW.seq (CW.region ?_))
        refine RW.move rfl rfl ?_
        refine RW.move rfl rfl ?_
        refine RW.lenSl Try.underlying22 rfl rfl ?_
        refine RW.lss rfl rfl rfl ?_
        refine RW.nil (EX.seq ?_)
        -- mq: cond
        first | refine CW.condD rfl (fun hlt => ?_) (fun hlt => ?_) | refine CW.cond rfl (fun hlt => ?_) (fun hlt => ?_)
        · skip
          cases rest with
          | nil => simp at hat1; omega
          | cons x rest =>
          simp only [List.length_cons] at hat1
          have hx : (plainF l)[i]? = some x := by
            have := congrArg (fun l => l[0]?) hat2
            simpa using this.symm
          have hrest : rest = (plainF l).drop (i + 1) := by
            have := congrArg List.tail hat2
            simpa using this
          obtain ⟨bd, hB, hbd, hxc⟩ := plR.at_ hx
          refine CW.skip (EX.seq (CW.seq (CW.block (CW.seq (CW.region ?_)))))
          refine RW.move rfl rfl ?_
          refine RW.lenSl Try.underlying24 rfl rfl ?_
          refine RW.sub_ rfl rfl rfl (wrap64 (by omega) (by omega)) ?_
          refine RW.assign rfl rfl ?_
          refine RW.nil (EX.seq (CW.seq ?_))
          -- mq: seq
          refine CW.join ([(1, .int .i64 (cols : Int)), (5, .slice A5 n5 c5), (8, .slice (some ⟨go, 0, none⟩) (rs.length + 1) co), (9, .int .i64 (i : Int)), (10, .int .i64 (((rs.length + 1 : Nat) : Int) - 1))]) (HPad wi S (.slice (some ⟨go, 0, none⟩) (rs.length + 1) co) rs cont (padB cols cur x)) ?_ ?_
          · skip
            refine CW.seq (CW.region ?_)
            refine RW.move rfl rfl ?_
            refine RW.move rfl rfl ?_
            refine RW.ixAddr (q := rs.length) sl24 rfl rfl rfl (by first | rfl | assumption) (by omega) (by omega) ?_
            refine RW.fieldP fl45x0 rfl rfl ?_
            refine RW.load1 sc22 rfl rfl (fun w' hw' => hw'.own_at (E := ERow) (Has.tail Has.head) hslot 0 _ rfl) ?_
            refine RW.lenSl Try.underlying22 rfl rfl ?_
            refine RW.move rfl rfl ?_
            refine RW.sub_ rfl rfl rfl (wrap64 (by omega) (by omega)) ?_
            refine RW.eqlI rfl rfl rfl ?_
            refine RW.move rfl rfl ?_
            -- mq: guard slot 54
            refine RW.casesB 54 rfl (fun h1 => ?_) (fun h1 => ?_)
            · skip
              have h1p := of_decide_eq_true h1
              refine RW.guardT rfl rfl h1 ?_
              refine RW.move rfl rfl ?_
              refine RW.guardT rfl rfl h1 ?_
              refine RW.move rfl rfl ?_
              refine RW.guardT rfl rfl h1 ?_
              refine RW.ixAddr (q := i) sl22 rfl rfl rfl (by first | rfl | assumption) (by omega) (by omega) ?_
              refine RW.guardT rfl rfl h1 ?_
              refine RW.fieldP fl34x2 rfl rfl ?_
              refine RW.guardT rfl rfl h1 ?_
              refine RW.load1 sc3 rfl rfl (fun w' hw' => hw'.base_cell (hxc 2 _ rfl) (by simpa [block_add] using hbd.2)) ?_
              refine RW.guardT rfl rfl h1 ?_
              refine RW.eqlI rfl rfl rfl ?_
              refine RW.pickB rfl rfl h1 rfl ?_
              refine RW.nil (EX.seq ?_)
              -- mq: cond
              first | refine CW.condD rfl (fun h2 => ?_) (fun h2 => ?_) | refine CW.cond rfl (fun h2 => ?_) (fun h2 => ?_)
              · skip
                refine CW.region ?_
                refine RW.move rfl rfl ?_
                refine RW.move rfl rfl ?_
                refine RW.move rfl rfl ?_
                refine RW.move rfl rfl ?_
                refine RW.ixAddr (q := rs.length) sl24 rfl rfl rfl (by first | rfl | assumption) (by omega) (by omega) ?_
                refine RW.fieldP fl45x0 rfl rfl ?_
                refine RW.load1 sc22 rfl rfl (fun w' hw' => hw'.own_at (E := ERow) (Has.tail Has.head) hslot 0 _ rfl) ?_
                refine RW.buildS bu34 rfl rfl rfl ?_
                refine RW.buildSlc sl22 rfl rfl rfl rfl (fun g70 hg70 hf70 => ?_)
                refine RW.append1 sl22 rfl rfl rfl (by first | exact Rem.head | exact Rem.tail Rem.head | exact Rem.tail (Rem.tail Rem.head) | exact Rem.tail (Rem.tail (Rem.tail Rem.head)) | exact Rem.tail (Rem.tail (Rem.tail (Rem.tail Rem.head))) | exact Rem.tail (Rem.tail (Rem.tail (Rem.tail (Rem.tail Rem.head)))) | exact Rem.tail (Rem.tail (Rem.tail (Rem.tail (Rem.tail (Rem.tail Rem.head)))))) (fun _ => by first | exact Upd.head | exact Upd.tail Upd.head | exact Upd.tail (Upd.tail Upd.head) | exact Upd.tail (Upd.tail (Upd.tail Upd.head)) | exact Upd.tail (Upd.tail (Upd.tail (Upd.tail Upd.head))) | exact Upd.tail (Upd.tail (Upd.tail (Upd.tail (Upd.tail Upd.head)))) | exact Upd.tail (Upd.tail (Upd.tail (Upd.tail (Upd.tail (Upd.tail Upd.head)))))) rfl (by repeat (first | exact Ones.nil | exact Enc.ones _ _ | refine Ones.cons rfl ?_)) (by simp only [maxLen]; omega) (by omega) (fun v71 hv71 => ?_)
                -- mq: at
                have h1q : (cur.length : Int) = (cols : Int) - 1 := h1p
                have hpad : padB cols cur x = cur ++ [padC] := by unfold padB; rw [if_pos ⟨by omega, h2⟩]
                refine RW.formOwn (v := v71) Has.head (fun A2 C2 hv2 hcap2 hmax2 hlen2 hg2 => ?_)
                subst hv2
                have hset := ERow.all_set (j := 0) (a' := ⟨A2, cur.length + 1, C2, cont⟩) (v := .slice A2 (cur.length + 1) C2) hslot (by decide) rfl
                rw [List.set_append_right _ _ (Nat.le_refl _), Nat.sub_self] at hset
                refine RW.ixAddr (q := rs.length) sl24 rfl rfl rfl (by first | rfl | assumption) (by omega) (by omega) ?_
                refine RW.fieldP fl45x0 rfl rfl ?_
                refine RW.storeOwn1 (o := rs.length * 2) sc22 rfl rfl (by first | exact Upd.head | exact Upd.tail Upd.head | exact Upd.tail (Upd.tail Upd.head) | exact Upd.tail (Upd.tail (Upd.tail Upd.head)) | exact Upd.tail (Upd.tail (Upd.tail (Upd.tail Upd.head))) | exact Upd.tail (Upd.tail (Upd.tail (Upd.tail (Upd.tail Upd.head)))) | exact Upd.tail (Upd.tail (Upd.tail (Upd.tail (Upd.tail (Upd.tail Upd.head)))))) (by simp [Addr.add_lit]) rfl (by rw [hlen]; omega) ?_
                refine RW.nil ?_
                -- mq: joinend
                refine EX.jn (by repeat (first | exact Sub.nil | refine Sub.cons (by rfl) ?_)) (fun w' hw' => ?_)
                rw [hpad]
                refine ⟨A2, C2, fun g hg => ?_, ?_⟩
                · rw [List.length_append] at hg
                  rcases hv71 g hg with h | h
                  · left
                    have h : (Value.slice A' cur.length C').ownBlock = some g := h
                    rw [← hS]
                    simp [feet, own, h]
                  · exact .inr h.1
                · unfold chunksR
                  rw [List.length_append, Enc.all_snoc ECell]
                  rw [show rs.length * 2 = rs.length * ERow.sz + 0 from rfl, hset] at hw'
                  exact hw'
              · skip
                refine CW.skip ?_
                -- mq: joinend
                have hpad : padB cols cur x = cur := by unfold padB; rw [if_neg (fun h => h2 h.2)]
                refine EX.jn (by repeat (first | exact Sub.nil | refine Sub.cons (by rfl) ?_)) (fun w' hw' => ?_)
                rw [hpad]
                refine ⟨A', C', fun g hg => ?_, hw'⟩
                left
                rw [← hS]
                simp [feet, own, hg]
            · skip
              have h1p := of_decide_eq_false h1
              refine RW.guardF rfl rfl rfl h1 ?_
              refine RW.guardF rfl rfl rfl h1 ?_
              refine RW.guardF rfl rfl rfl h1 ?_
              refine RW.guardF rfl rfl rfl h1 ?_
              refine RW.guardF rfl rfl rfl h1 ?_
              refine RW.guardF rfl rfl rfl h1 ?_
              refine RW.pickC rfl rfl h1 rfl ?_
              refine RW.nil (EX.seq ?_)
              -- mq: cond
              refine CW.condF rfl (rfl) ?_
              refine CW.skip ?_
              -- mq: joinend
              have h1q : ¬ (cur.length : Int) = (cols : Int) - 1 := h1p
              have hpad : padB cols cur x = cur := by unfold padB; rw [if_neg (fun h => h1q (by omega))]
              refine EX.jn (by repeat (first | exact Sub.nil | refine Sub.cons (by rfl) ?_)) (fun w' hw' => ?_)
              rw [hpad]
              refine ⟨A', C', fun g hg => ?_, hw'⟩
              left
              rw [← hS]
              simp [feet, own, hg]
          · skip
            refine CW.pad (fun A2 C2 hf2 => ?_)
            generalize hcur : padB cols cur x = cur1 at *
            have hcl1 : cur1.length ≤ cols := by
              rw [← hcur]
              unfold padB
              split
              · simp; omega
              · exact curl
            have hslot2 : (rs ++ [(⟨A2, cur1.length, C2, cont⟩ : RowV)])[rs.length]? = some ⟨A2, cur1.length, C2, cont⟩ := by simp
            refine EX.seq (CW.seq (CW.seq (CW.region ?_)))
            refine RW.move rfl rfl ?_
            refine RW.move rfl rfl ?_
            refine RW.ixAddr (q := rs.length) sl24 rfl rfl rfl (by first | rfl | assumption) (by omega) (by omega) ?_
            refine RW.fieldP fl45x0 rfl rfl ?_
            refine RW.load1 sc22 rfl rfl (fun w' hw' => hw'.own_at (E := ERow) (Has.tail Has.head) hslot2 0 _ rfl) ?_
            refine RW.lenSl Try.underlying22 rfl rfl ?_
            refine RW.move rfl rfl ?_
            refine RW.eqlI rfl rfl rfl ?_
            refine RW.nil (EX.seq ?_)
            -- mq: cond
            first | refine CW.condD rfl (fun h5 => ?_) (fun h5 => ?_) | refine CW.cond rfl (fun h5 => ?_) (fun h5 => ?_)
            · skip
              have h5q : (cur1.length : Int) = (cols : Int) := h5
              refine CW.seq (CW.region ?_)
              refine RW.move rfl rfl ?_
              refine RW.buildS bu45 rfl rfl rfl ?_
              refine RW.buildSlc sl24 rfl rfl rfl rfl (fun g84 hg84 hf84 => ?_)
              refine RW.append1 sl24 rfl rfl rfl (by first | exact Rem.head | exact Rem.tail Rem.head | exact Rem.tail (Rem.tail Rem.head) | exact Rem.tail (Rem.tail (Rem.tail Rem.head)) | exact Rem.tail (Rem.tail (Rem.tail (Rem.tail Rem.head))) | exact Rem.tail (Rem.tail (Rem.tail (Rem.tail (Rem.tail Rem.head)))) | exact Rem.tail (Rem.tail (Rem.tail (Rem.tail (Rem.tail (Rem.tail Rem.head)))))) (fun _ => by first | exact Upd.head | exact Upd.tail Upd.head | exact Upd.tail (Upd.tail Upd.head) | exact Upd.tail (Upd.tail (Upd.tail Upd.head)) | exact Upd.tail (Upd.tail (Upd.tail (Upd.tail Upd.head))) | exact Upd.tail (Upd.tail (Upd.tail (Upd.tail (Upd.tail Upd.head)))) | exact Upd.tail (Upd.tail (Upd.tail (Upd.tail (Upd.tail (Upd.tail Upd.head)))))) rfl (by repeat (first | exact Ones.nil | exact Enc.ones _ _ | refine Ones.cons rfl ?_)) (by simp only [maxLen]; omega) (by omega) (fun v85 hv85 => ?_)
              refine RW.assign rfl rfl ?_
              refine RW.nil (EX.seq (CW.region ?_))
              refine RW.move rfl rfl ?_
              refine RW.add rfl rfl rfl (wrap64 (by omega) (by omega)) ?_
              refine RW.assign rfl rfl ?_
              refine RW.nil (EX.seq ?_)
              -- mq: draw op 6: ('Op.load', '22', ('Operand.tmp', '93')) -> slot 94 ("ref.go:52")
              refine CW.formOwn (v := v85) (Has.tail Has.head) (fun A4 C4 hv4 hcap4 hmax4 hlen4 hg4 => ?_)
              subst hv4
              obtain ⟨g4, rfl⟩ := hg4 (by omega)
              refine CW.sub (H' := SH wi S [own 34 8 (.slice A2 cur1.length C2) cur1.length (ECell.all cur1), own 45 2 (.slice (some ⟨g4, 0, none⟩) (rs.length + 1 + 1) C4) (rs.length + 1 + 1) (ERow.all ((rs ++ [⟨A2, cur1.length, C2, cont⟩]) ++ [⟨none, 0, 0, true⟩]))]) ?_ (Sub.refl _) (fun w' hw' => by rw [Enc.all_snoc ERow]; exact hw')
              refine CW.ownNil 34 8 ?_
              have hslot3 : ((rs ++ [(⟨A2, cur1.length, C2, cont⟩ : RowV)]) ++ [(⟨none, 0, 0, true⟩ : RowV)])[rs.length + 1]? = some ⟨none, 0, 0, true⟩ := by rw [List.getElem?_append_right (by simp)]; simp
              refine CW.drawS [true, true, true, true, true, true, true, true, true, true, true, false, false, false, false, false] 2 (SH wi S [own 45 2 (.slice (some ⟨g4, 0, none⟩) (rs.length + 1 + 1) C4) (rs.length + 1 + 1) (ERow.all ((rs ++ [⟨A2, cur1.length, C2, cont⟩]) ++ [⟨none, 0, 0, true⟩]))]) mixed (by kernel_rfl) (fun _ hw => hw.drew) (fun _ h => by first | exact h | (have h1 := h.rem Rem.head; first | exact h1 | (have h2 := h1.rem Rem.head; first | exact h2 | (have h3 := h2.rem Rem.head; exact h3)))) (by repeat (first | exact NoP.fin | exact NoP.jn | refine NoP.sq ?_ | refine NoP.bk ?_ | refine NoP.lp ?_)) ?_
              refine QuW.cons rfl (fun wq hq => (RW.move rfl rfl RW.jn)) ?_
              refine QuW.cons rfl (fun wq hq => (RW.move rfl rfl RW.jn)) ?_
              refine QuW.cons rfl (fun wq hq => (RW.move rfl rfl RW.jn)) ?_
              refine QuW.cons rfl (fun wq hq => (RW.move rfl rfl RW.jn)) ?_
              refine QuW.cons rfl (fun wq hq => (RW.ixAddr (q := rs.length + 1) sl24 rfl rfl rfl (by first | rfl | assumption) (by omega) (by omega) RW.jn)) ?_
              refine QuW.cons rfl (fun wq hq => (RW.fieldP fl45x0 rfl rfl RW.jn)) ?_
              refine QuW.cons rfl (fun wq hq => (RW.load1 sc22 rfl rfl (fun w1 e1 => by subst e1; exact (hq.own_at (E := ERow) Has.head hslot3 0 _ rfl)) RW.jn)) ?_
              refine QuW.cons rfl (fun wq hq => (RW.move rfl rfl RW.jn)) ?_
              refine QuW.cons rfl (fun wq hq => (RW.move rfl rfl RW.jn)) ?_
              refine QuW.cons rfl (fun wq hq => (RW.ixAddr (q := i) sl22 rfl rfl rfl (by first | rfl | assumption) (by omega) (by omega) RW.jn)) ?_
              refine QuW.cons rfl (fun wq hq => (RW.loadA ag34 rfl rfl (rfl) (fun w1 e1 j u hj => by subst e1; exact (hq.base_cell (hxc j u hj) (by simpa [block_add] using hbd.2))) RW.jn)) ?_
              refine QuW.skip ?_
              refine QuW.skip ?_
              refine QuW.skip ?_
              refine QuW.skip ?_
              refine QuW.skip ?_
              refine QuW.nil ?_
              refine SpW.soft ?_
              refine RW.buildSlc sl22 rfl rfl rfl rfl (fun g99 hg99 hf99 => ?_)
              refine RW.sp1 (fun _ h => by first | exact h | (have h1 := h.rem Rem.head; first | exact h1 | (have h2 := h1.rem Rem.head; first | exact h2 | (have h3 := h2.rem Rem.head; exact h3)))) ?_
              refine SpW.soft ?_
              refine RW.append1 sl22 rfl rfl rfl (by first | exact Rem.head | exact Rem.tail Rem.head | exact Rem.tail (Rem.tail Rem.head) | exact Rem.tail (Rem.tail (Rem.tail Rem.head)) | exact Rem.tail (Rem.tail (Rem.tail (Rem.tail Rem.head))) | exact Rem.tail (Rem.tail (Rem.tail (Rem.tail (Rem.tail Rem.head)))) | exact Rem.tail (Rem.tail (Rem.tail (Rem.tail (Rem.tail (Rem.tail Rem.head)))))) (fun _ => by first | exact Upd.head | exact Upd.tail Upd.head | exact Upd.tail (Upd.tail Upd.head) | exact Upd.tail (Upd.tail (Upd.tail Upd.head)) | exact Upd.tail (Upd.tail (Upd.tail (Upd.tail Upd.head))) | exact Upd.tail (Upd.tail (Upd.tail (Upd.tail (Upd.tail Upd.head)))) | exact Upd.tail (Upd.tail (Upd.tail (Upd.tail (Upd.tail (Upd.tail Upd.head)))))) rfl (by repeat (first | exact Ones.nil | exact Enc.ones _ _ | refine Ones.cons rfl ?_)) (by simp only [maxLen]; omega) (by omega) (fun v100 hv100 => ?_)
              -- mq: at
              refine RW.formOwn (v := v100) Has.head (fun A3 C3 hv3 hcap3 hmax3 hlen3 hg3 => ?_)
              subst hv3
              have hset := ERow.all_set (j := 0) (a' := ⟨A3, 0 + 1, C3, true⟩) (v := .slice A3 (0 + 1) C3) hslot3 (by decide) rfl
              rw [List.set_append_right _ _ (by simp), show rs.length + 1 - (rs ++ [(⟨A2, cur1.length, C2, cont⟩ : RowV)]).length = 0 by simp] at hset
              refine RW.sp1 (fun _ h => by first | exact h | (have h1 := h.rem Rem.head; first | exact h1 | (have h2 := h1.rem Rem.head; first | exact h2 | (have h3 := h2.rem Rem.head; exact h3)))) ?_
              refine SpW.hard ?_
              refine RW.ixAddr (q := rs.length + 1) sl24 rfl rfl rfl (by first | rfl | assumption) (by omega) (by omega) ?_
              refine RW.fieldP fl45x0 rfl rfl ?_
              refine RW.storeOwn1 (o := (rs.length + 1) * 2) sc22 rfl rfl (by first | exact Upd.head | exact Upd.tail Upd.head | exact Upd.tail (Upd.tail Upd.head) | exact Upd.tail (Upd.tail (Upd.tail Upd.head)) | exact Upd.tail (Upd.tail (Upd.tail (Upd.tail Upd.head))) | exact Upd.tail (Upd.tail (Upd.tail (Upd.tail (Upd.tail Upd.head)))) | exact Upd.tail (Upd.tail (Upd.tail (Upd.tail (Upd.tail (Upd.tail Upd.head)))))) (by simp [Addr.add_lit]) rfl (by rw [ERow.all_length, List.length_append, List.length_append]; show _ < (_ + 1 + 1) * 2; omega) ?_
              refine RW.nil (EX.bkN (EX.seq (CW.region ?_)))
              refine RW.move rfl rfl ?_
              refine RW.add rfl rfl rfl (wrap64 (by omega) (by omega)) ?_
              refine RW.assign rfl rfl ?_
              refine RW.nil ?_
              -- mq: loopend
              rw [goR, hcur, if_pos (by omega)] at spec
              refine EX.lpW (fun w' hw' => ?_)
              have hold := hw'.has (Has.tail Has.head)
              have hnd := hw'.nodup
              have hw2 := hw'.rem (Rem.tail Rem.head)
              have hw'' : SH wi S (chunksR (.slice (some ⟨g4, 0, none⟩) (rs.length + 1 + 1) C4) (rs ++ [⟨A2, cur1.length, C2, cont⟩]) A3 C3 true [x]) w' := by
                unfold chunksR
                rw [show (rs.length + 1) * 2 = (rs.length + 1) * ERow.sz + 0 from rfl, hset] at hw2
                rw [List.length_append]
                exact hw2
              refine ⟨⟨w', .slice (some ⟨g4, 0, none⟩) (rs.length + 1 + 1) C4, rs ++ [⟨A2, cur1.length, C2, cont⟩], A3, C3, dn ++ [(cur1, cont)], [x], rest, i + 1⟩, ref_ok_break hcn e1 nest conts plR fresh hw'' ?_ hold ?_ ?_ ⟨by omega, hrest⟩ (by rw [spec, ← hcn]) (by simp; omega) (by simp; omega), by simp, (by repeat (first | exact Sub.nil | refine Sub.cons (by rfl) ?_)), ?_⟩
              · intro g hg
                rw [feet_cons, feet_cons, feet_nil, List.append_nil] at hg
                rcases List.mem_append.1 hg with h | h
                · have h : (Value.slice A3 (0 + 1) C3).ownBlock = some g := Option.mem_toList.1 h
                  rcases hv100 g h with h | h
                  · simp [Value.ownBlock] at h
                  · exact .inr h.1
                · have h : (Value.slice (some ⟨g4, 0, none⟩) (rs.length + 1 + 1) C4).ownBlock = some g := Option.mem_toList.1 h
                  rcases hv85 g h with h | h
                  · left
                    rw [← hS]
                    simp [feet, own, h]
                  · exact .inr h.1
              · intro g hg
                refine ⟨?_, fun h3 => ?_⟩
                · rcases hf2 g hg with h | h
                  · exact fresh g h
                  · exact Nat.le_trans e1.size h
                · rw [feet_cons, feet_cons, List.nodup_append, List.nodup_append] at hnd
                  have hg1 := Option.mem_toList.2 hg
                  rw [feet_cons, feet_cons, feet_nil, List.append_nil] at h3
                  rcases List.mem_append.1 h3 with h | h
                  · exact hnd.2.2 g h g (List.mem_append.2 (.inl hg1)) rfl
                  · exact hnd.2.1.2.2 g hg1 g (by rw [feet_cons, feet_nil, List.append_nil]; exact h) rfl
              · exact hrd
              · dsimp only
                rw [show decide (dn ++ [(cur1, cont)] ≠ []) = true by simp]
                exact hw''.rebase
            · skip
              have h5q : ¬ (cur1.length : Int) = (cols : Int) := h5
              refine CW.skip (EX.seq ?_)
              -- mq: draw op 6: ('Op.load', '22', ('Operand.tmp', '93')) -> slot 94 ("ref.go:52")
              refine CW.drawS [true, true, true, true, true, true, true, true, true, true, true, false, false, false, false, false] 2 (SH wi S [own 45 2 (.slice (some ⟨go, 0, none⟩) (rs.length + 1) co) (rs.length + 1) (ERow.all (rs ++ [⟨A2, cur1.length, C2, cont⟩]))]) mixed (by kernel_rfl) (fun _ hw => hw.drew) (fun _ h => by first | exact h | (have h1 := h.rem Rem.head; first | exact h1 | (have h2 := h1.rem Rem.head; first | exact h2 | (have h3 := h2.rem Rem.head; exact h3)))) (by repeat (first | exact NoP.fin | exact NoP.jn | refine NoP.sq ?_ | refine NoP.bk ?_ | refine NoP.lp ?_)) ?_
              refine QuW.cons rfl (fun wq hq => (RW.move rfl rfl RW.jn)) ?_
              refine QuW.cons rfl (fun wq hq => (RW.move rfl rfl RW.jn)) ?_
              refine QuW.cons rfl (fun wq hq => (RW.move rfl rfl RW.jn)) ?_
              refine QuW.cons rfl (fun wq hq => (RW.move rfl rfl RW.jn)) ?_
              refine QuW.cons rfl (fun wq hq => (RW.ixAddr (q := rs.length) sl24 rfl rfl rfl (by first | rfl | assumption) (by omega) (by omega) RW.jn)) ?_
              refine QuW.cons rfl (fun wq hq => (RW.fieldP fl45x0 rfl rfl RW.jn)) ?_
              refine QuW.cons rfl (fun wq hq => (RW.load1 sc22 rfl rfl (fun w1 e1 => by subst e1; exact (hq.own_at (E := ERow) Has.head hslot2 0 _ rfl)) RW.jn)) ?_
              refine QuW.cons rfl (fun wq hq => (RW.move rfl rfl RW.jn)) ?_
              refine QuW.cons rfl (fun wq hq => (RW.move rfl rfl RW.jn)) ?_
              refine QuW.cons rfl (fun wq hq => (RW.ixAddr (q := i) sl22 rfl rfl rfl (by first | rfl | assumption) (by omega) (by omega) RW.jn)) ?_
              refine QuW.cons rfl (fun wq hq => (RW.loadA ag34 rfl rfl (rfl) (fun w1 e1 j u hj => by subst e1; exact (hq.base_cell (hxc j u hj) (by simpa [block_add] using hbd.2))) RW.jn)) ?_
              refine QuW.skip ?_
              refine QuW.skip ?_
              refine QuW.skip ?_
              refine QuW.skip ?_
              refine QuW.skip ?_
              refine QuW.nil ?_
              refine SpW.soft ?_
              refine RW.buildSlc sl22 rfl rfl rfl rfl (fun g99 hg99 hf99 => ?_)
              refine RW.sp1 (fun _ h => by first | exact h | (have h1 := h.rem Rem.head; first | exact h1 | (have h2 := h1.rem Rem.head; first | exact h2 | (have h3 := h2.rem Rem.head; exact h3)))) ?_
              refine SpW.soft ?_
              refine RW.append1 sl22 rfl rfl rfl (by first | exact Rem.head | exact Rem.tail Rem.head | exact Rem.tail (Rem.tail Rem.head) | exact Rem.tail (Rem.tail (Rem.tail Rem.head)) | exact Rem.tail (Rem.tail (Rem.tail (Rem.tail Rem.head))) | exact Rem.tail (Rem.tail (Rem.tail (Rem.tail (Rem.tail Rem.head)))) | exact Rem.tail (Rem.tail (Rem.tail (Rem.tail (Rem.tail (Rem.tail Rem.head)))))) (fun _ => by first | exact Upd.head | exact Upd.tail Upd.head | exact Upd.tail (Upd.tail Upd.head) | exact Upd.tail (Upd.tail (Upd.tail Upd.head)) | exact Upd.tail (Upd.tail (Upd.tail (Upd.tail Upd.head))) | exact Upd.tail (Upd.tail (Upd.tail (Upd.tail (Upd.tail Upd.head)))) | exact Upd.tail (Upd.tail (Upd.tail (Upd.tail (Upd.tail (Upd.tail Upd.head)))))) rfl (by repeat (first | exact Ones.nil | exact Enc.ones _ _ | refine Ones.cons rfl ?_)) (by simp only [maxLen]; omega) (by omega) (fun v100 hv100 => ?_)
              -- mq: at
              refine RW.formOwn (v := v100) Has.head (fun A3 C3 hv3 hcap3 hmax3 hlen3 hg3 => ?_)
              subst hv3
              have hset := ERow.all_set (j := 0) (a' := ⟨A3, cur1.length + 1, C3, cont⟩) (v := .slice A3 (cur1.length + 1) C3) hslot2 (by decide) rfl
              rw [List.set_append_right _ _ (Nat.le_refl _), Nat.sub_self] at hset
              refine RW.sp1 (fun _ h => by first | exact h | (have h1 := h.rem Rem.head; first | exact h1 | (have h2 := h1.rem Rem.head; first | exact h2 | (have h3 := h2.rem Rem.head; exact h3)))) ?_
              refine SpW.hard ?_
              refine RW.ixAddr (q := rs.length) sl24 rfl rfl rfl (by first | rfl | assumption) (by omega) (by omega) ?_
              refine RW.fieldP fl45x0 rfl rfl ?_
              refine RW.storeOwn1 (o := rs.length * 2) sc22 rfl rfl (by first | exact Upd.head | exact Upd.tail Upd.head | exact Upd.tail (Upd.tail Upd.head) | exact Upd.tail (Upd.tail (Upd.tail Upd.head)) | exact Upd.tail (Upd.tail (Upd.tail (Upd.tail Upd.head))) | exact Upd.tail (Upd.tail (Upd.tail (Upd.tail (Upd.tail Upd.head)))) | exact Upd.tail (Upd.tail (Upd.tail (Upd.tail (Upd.tail (Upd.tail Upd.head)))))) (by simp [Addr.add_lit]) rfl (by rw [ERow.all_length, List.length_append]; show _ < (_ + 1) * 2; omega) ?_
              refine RW.nil (EX.bkN (EX.seq (CW.region ?_)))
              refine RW.move rfl rfl ?_
              refine RW.add rfl rfl rfl (wrap64 (by omega) (by omega)) ?_
              refine RW.assign rfl rfl ?_
              refine RW.nil ?_
              -- mq: loopend
              rw [goR, hcur, if_neg (by omega)] at spec
              refine EX.lpW (fun w' hw' => ?_)
              have hw'' : SH wi S (chunksR (.slice (some ⟨go, 0, none⟩) (rs.length + 1) co) rs A3 C3 cont (cur1 ++ [x])) w' := by
                unfold chunksR
                rw [List.length_append, Enc.all_snoc ECell]
                rw [show rs.length * 2 = rs.length * ERow.sz + 0 from rfl, hset] at hw'
                exact hw'
              refine ⟨⟨w', .slice (some ⟨go, 0, none⟩) (rs.length + 1) co, rs, A3, C3, dn, cur1 ++ [x], rest, i + 1⟩, ref_ok_push hcn hS e1 nest conts plR fresh hw'' ?_ ⟨by omega, hrest⟩ spec (by simp; omega) (by omega), by simp, (by repeat (first | exact Sub.nil | refine Sub.cons (by rfl) ?_)), ?_⟩
              · intro g hg
                rw [feet_cons, feet_cons, feet_nil, List.append_nil] at hg
                rcases List.mem_append.1 hg with h | h
                · have h := Option.mem_toList.1 (show g ∈ (Value.slice A3 (cur1 ++ [x]).length C3).ownBlock.toList from h)
                  rw [List.length_append] at h
                  rcases hv100 g h with h | h
                  · exact hf2 g h
                  · exact .inr h.1
                · have h : some go = some g := Option.mem_toList.1 h
                  left
                  rw [← hS]
                  simp only [Option.some.injEq] at h
                  subst h
                  simp [feet, own, Value.ownBlock]
              · dsimp only
                rw [hcn]
                exact hw''.rebase
        · skip
          have hr0 : rest = [] := List.eq_nil_of_length_eq_zero (by omega)
          subst hr0
          rw [goR] at spec
          refine CW.exit (EX.seqE (EX.lpE (EX.bkE (EX.seq (CW.seq (CW.seq (CW.region ?_)))))))
          refine RW.move rfl rfl ?_
          refine RW.lenSl Try.underlying24 rfl rfl ?_
          refine RW.sub_ rfl rfl rfl (wrap64 (by omega) (by omega)) ?_
          refine RW.assign rfl rfl ?_
          refine RW.nil (EX.seq (CW.block ?_))
          -- mq: loop
          refine CW.loop (ι := Option Addr × Nat × List CellV) (fun _ => [(1, .int .i64 (cols : Int)), (8, .slice (some ⟨go, 0, none⟩) (rs.length + 1) co), (11, .int .i64 (((rs.length + 1 : Nat) : Int) - 1))]) (fun s => SH wi S (chunksR (.slice (some ⟨go, 0, none⟩) (rs.length + 1) co) rs s.1 s.2.1 cont s.2.2)) (fun s => (∃ k, s.2.2 = cur ++ List.replicate k zeroC) ∧ s.2.2.length ≤ cols ∧ ∀ g, (Value.slice s.1 s.2.2.length s.2.1).ownBlock = some g → g ∈ S ∨ wi.heap.size ≤ g) (fun s => cols - s.2.2.length) ?_ ?_
          · refine fun w' hw' => ⟨(A', C', cur), ⟨⟨0, by simp⟩, curl, fun g hg => ?_⟩, (by repeat (first | exact Sub.nil | refine Sub.cons (by rfl) ?_)), hw'⟩
            left
            rw [← hS]
            simp [feet, own, hg]
          · rintro ⟨A2, C2, cur1⟩ ⟨⟨k, hk⟩, hcl1, hf2⟩
            dsimp only at hk hcl1 hf2 ⊢
            have hslot2 : (rs ++ [(⟨A2, cur1.length, C2, cont⟩ : RowV)])[rs.length]? = some ⟨A2, cur1.length, C2, cont⟩ := by simp
            refine CW.seq (CW.seq (CW.region ?_))
            refine RW.move rfl rfl ?_
            refine RW.move rfl rfl ?_
            refine RW.ixAddr (q := rs.length) sl24 rfl rfl rfl (by first | rfl | assumption) (by omega) (by omega) ?_
            refine RW.fieldP fl45x0 rfl rfl ?_
            refine RW.load1 sc22 rfl rfl (fun w' hw' => hw'.own_at (E := ERow) (Has.tail Has.head) hslot2 0 _ rfl) ?_
            refine RW.lenSl Try.underlying22 rfl rfl ?_
            refine RW.move rfl rfl ?_
            refine RW.lss rfl rfl rfl ?_
            refine RW.nil (EX.seq ?_)
            -- mq: cond
            first | refine CW.condD rfl (fun h5 => ?_) (fun h5 => ?_) | refine CW.cond rfl (fun h5 => ?_) (fun h5 => ?_)
            · skip
              have h5q : (cur1.length : Int) < (cols : Int) := h5
              refine CW.skip (EX.seq (CW.block (CW.region ?_)))
              refine RW.move rfl rfl ?_
              refine RW.move rfl rfl ?_
              refine RW.move rfl rfl ?_
              refine RW.move rfl rfl ?_
              refine RW.ixAddr (q := rs.length) sl24 rfl rfl rfl (by first | rfl | assumption) (by omega) (by omega) ?_
              refine RW.fieldP fl45x0 rfl rfl ?_
              refine RW.load1 sc22 rfl rfl (fun w' hw' => hw'.own_at (E := ERow) (Has.tail Has.head) hslot2 0 _ rfl) ?_
              refine RW.buildS bu34 rfl rfl rfl ?_
              refine RW.buildSlc sl22 rfl rfl rfl rfl (fun g122 hg122 hf122 => ?_)
              refine RW.append1 sl22 rfl rfl rfl (by first | exact Rem.head | exact Rem.tail Rem.head | exact Rem.tail (Rem.tail Rem.head) | exact Rem.tail (Rem.tail (Rem.tail Rem.head)) | exact Rem.tail (Rem.tail (Rem.tail (Rem.tail Rem.head))) | exact Rem.tail (Rem.tail (Rem.tail (Rem.tail (Rem.tail Rem.head)))) | exact Rem.tail (Rem.tail (Rem.tail (Rem.tail (Rem.tail (Rem.tail Rem.head)))))) (fun _ => by first | exact Upd.head | exact Upd.tail Upd.head | exact Upd.tail (Upd.tail Upd.head) | exact Upd.tail (Upd.tail (Upd.tail Upd.head)) | exact Upd.tail (Upd.tail (Upd.tail (Upd.tail Upd.head))) | exact Upd.tail (Upd.tail (Upd.tail (Upd.tail (Upd.tail Upd.head)))) | exact Upd.tail (Upd.tail (Upd.tail (Upd.tail (Upd.tail (Upd.tail Upd.head)))))) rfl (by repeat (first | exact Ones.nil | exact Enc.ones _ _ | refine Ones.cons rfl ?_)) (by simp only [maxLen]; omega) (by omega) (fun v123 hv123 => ?_)
              -- mq: at
              refine RW.formOwn (v := v123) Has.head (fun A3 C3 hv3 hcap3 hmax3 hlen3 hg3 => ?_)
              subst hv3
              have hset := ERow.all_set (j := 0) (a' := ⟨A3, cur1.length + 1, C3, cont⟩) (v := .slice A3 (cur1.length + 1) C3) hslot2 (by decide) rfl
              rw [List.set_append_right _ _ (Nat.le_refl _), Nat.sub_self] at hset
              refine RW.ixAddr (q := rs.length) sl24 rfl rfl rfl (by first | rfl | assumption) (by omega) (by omega) ?_
              refine RW.fieldP fl45x0 rfl rfl ?_
              refine RW.storeOwn1 (o := rs.length * 2) sc22 rfl rfl (by first | exact Upd.head | exact Upd.tail Upd.head | exact Upd.tail (Upd.tail Upd.head) | exact Upd.tail (Upd.tail (Upd.tail Upd.head)) | exact Upd.tail (Upd.tail (Upd.tail (Upd.tail Upd.head))) | exact Upd.tail (Upd.tail (Upd.tail (Upd.tail (Upd.tail Upd.head)))) | exact Upd.tail (Upd.tail (Upd.tail (Upd.tail (Upd.tail (Upd.tail Upd.head)))))) (by simp [Addr.add_lit]) rfl (by rw [ERow.all_length, List.length_append]; show _ < (_ + 1) * 2; omega) ?_
              refine RW.nil (EX.bkN ?_)
              -- mq: loopend
              refine EX.lpN (A3, C3, cur1 ++ [zeroC]) ⟨⟨k + 1, by rw [hk, List.replicate_succ', List.append_assoc]⟩, by simp; omega, fun g hg => ?_⟩ (by simp; omega) (by repeat (first | exact Sub.nil | refine Sub.cons (by rfl) ?_)) (fun w' hw' => ?_)
              · dsimp only at hg
                rw [List.length_append] at hg
                rcases hv123 g hg with h | h
                · exact hf2 g h
                · exact .inr h.1
              · unfold chunksR
                rw [List.length_append, Enc.all_snoc ECell]
                rw [show rs.length * 2 = rs.length * ERow.sz + 0 from rfl, hset] at hw'
                exact hw'
            · skip
              have h5q : ¬ (cur1.length : Int) < (cols : Int) := h5
              refine CW.exit (EX.seqE (EX.lpE (EX.bkE (EX.seq (CW.seq (CW.region ?_))))))
              refine RW.move rfl rfl ?_
              refine RW.assign rfl rfl ?_
              refine RW.nil (EX.seq (CW.ret ?_))
              refine EX.fin1 Try.results14 rfl (fun wz hw => ?_)
              -- mq: done
              have hcl2 : cur1 = cur ++ List.replicate (cols - cur.length) zeroC := by
                have h6 : cur1.length = cols := by omega
                rw [hk, List.length_append, List.length_replicate] at h6
                rw [hk, show k = cols - cur.length by omega]
              obtain ⟨A6, c6, he6, hrd6⟩ := Rd.of_own (E := ERow) (hw.has (Has.tail Has.head)) (by simp)
              cases he6
              obtain ⟨A7, c7, he7, hrd7⟩ := Rd.of_own (E := ECell) (hw.has Has.head) rfl
              cases he7
              have hfr : ∀ g, g ∈ S → w.heap.size ≤ g := fresh
              refine ⟨_, _, _, rfl, e1.trans hw.ext (fun x hx hlt => absurd (fresh x hx) (by omega)), ⟨rs ++ [⟨A2, cur1.length, C2, cont⟩], hrd6.weak (fun k hk => ?_), ?_, fun k r row hk hrow => ?_⟩⟩
              · refine fresh k ?_
                rw [← hS]
                simp only [Value.ownBlock, Option.some.injEq] at hk
                subst hk
                simp [feet, own, Value.ownBlock]
              · rw [spec, ← hcn]
                simp [conts]
              · rw [spec] at hrow
                by_cases hkl : k < rs.length
                · rw [List.getElem?_append_left hkl] at hk
                  rw [List.getElem?_append_left (by omega)] at hrow
                  exact ((nest k r row hk hrow).ext hw.ext (fun k hk => hk.2)).weak (fun k hk => hk.1)
                · have hke : k = rs.length := by
                    have := (List.getElem?_eq_some_iff.1 hk).1
                    simp at this
                    omega
                  subst hke
                  rw [List.getElem?_append_right (Nat.le_refl _), Nat.sub_self] at hk
                  rw [List.getElem?_append_right (by omega), show rs.length - dn.length = 0 by omega] at hrow
                  simp only [List.getElem?_cons_zero, Option.some.injEq] at hk hrow
                  subst hk; subst hrow
                  rw [← hcl2]
                  refine hrd7.weak (fun k hk => ?_)
                  rcases hf2 k hk with h | h
                  · exact fresh k h
                  · exact Nat.le_trans e1.size h
end Go.Proofs.Ytmdmdlfdijdhgaa.Mq
