/- walk of flow.Split -/
import Derived.Test.YtmdmdlfdijdhgaaFlow1
namespace Go.Proofs.Ytmdmdlfdijdhgaa.Mq
open Go Go.RowKit Go.Proofs

def padC : CellV := { zeroC with half := 3 }
def restOf (left : List CellV) (cols : Nat) : List CellV := left.drop (takeF left cols)
def rowOf (left : List CellV) (cols : Nat) : List CellV :=
  if takeF left cols = cols - 1 ∧ restOf left cols ≠ [] then (left.take (takeF left cols) ++ List.replicate (cols - takeF left cols) zeroC).set (takeF left cols) padC
  else left.take (takeF left cols) ++ List.replicate (cols - takeF left cols) zeroC
def splitAux : Nat → List CellV → Nat → Bool → List RowL
  | 0, _, _, _ => []
  | f + 1, left, cols, cont => (rowOf left cols, cont) :: (if restOf left cols = [] then [] else splitAux f (restOf left cols) cols true)
def splitF (l : List CellV) (cols : Nat) : List RowL := splitAux (l.length + 1) (plainF l) cols false
theorem takeF_le (l : List CellV) (cols : Nat) : takeF l cols ≤ l.length ∧ takeF l cols ≤ cols := by
  unfold takeF
  split
  · omega
  · split <;> omega
theorem takeF_pos (l : List CellV) (cols : Nat) (hc : 2 ≤ cols) (hl : l ≠ []) : 1 ≤ takeF l cols := by
  have : 0 < l.length := List.length_pos_iff.2 hl
  unfold takeF
  split
  · omega
  · split <;> omega
theorem restOf_length (l : List CellV) (cols : Nat) : (restOf l cols).length = l.length - takeF l cols := by simp [restOf]
theorem all_drop {α : Type} (E : Enc α) (l : List α) (k : Nat) : (E.all l).drop (k * E.sz) = E.all (l.drop k) := by
  induction k generalizing l with
  | zero => simp
  | succ k ih =>
    cases l with
    | nil => simp [Enc.all]
    | cons a l =>
      have : E.all (a :: l) = E.enc a ++ E.all l := by simp [Enc.all]
      rw [this, Nat.add_mul, Nat.one_mul, Nat.add_comm, ← List.drop_drop, List.drop_left' (E.len a), List.drop_succ_cons]
      exact ih l
theorem zeros_all {α : Type} (E : Enc α) (a : α) (m : Nat) : zeros (E.enc a) m = E.all (List.replicate m a) := by
  induction m with
  | zero => simp [zeros, Enc.all]
  | succ m ih =>
    have : ∀ (l : List α), E.all (a :: l) = E.enc a ++ E.all l := fun l => by simp [Enc.all]
    rw [List.replicate_succ, this, zeros, ih]
theorem zeros_cell (m : Nat) : zeros [.int .i32 0, .string ByteArray.empty, .int .i64 0, .int .i64 0, .int .i64 0, .int .i64 0, .int .i64 0, .int .i64 0] m = ECell.all (List.replicate m zeroC) := zeros_all ECell zeroC m
structure SplitSt where
  wi : World
  v : Value
  rs : List RowV
  dn : List RowL
  lA : Option Addr
  ln : Nat
  lc : Nat
  left : List CellV
  f : Nat
structure SplitOk (w : World) (L0 cols : Nat) (total : List RowL) (s : SplitSt) : Prop where
  e1 : Ext [] w s.wi
  nest : ∀ (k : Nat) (r : RowV) (row : RowL), s.rs[k]? = some r → s.dn[k]? = some row → Rd ECell s.wi (fun k => w.heap.size ≤ k ∧ s.v.ownBlock ≠ some k) r.A r.n r.c row.1
  conts : s.rs.map (·.cont) = s.dn.map (·.2)
  leftR : Rd ECell s.wi (fun k => w.heap.size ≤ k ∧ s.v.ownBlock ≠ some k) s.lA s.ln s.lc s.left
  fresh : ∀ g, s.v.ownBlock = some g → w.heap.size ≤ g
  fuel : s.dn = [] ∨ s.left ≠ [] → s.left.length < s.f
  spec : total = s.dn ++ (if s.dn = [] ∨ s.left ≠ [] then splitAux s.f s.left cols (decide (s.dn ≠ [])) else [])
  size : s.dn.length + s.left.length ≤ L0 + 1
def RetRows (w : World) (L : List RowL) : Ending → World → Prop := fun e w' =>
  ∃ A n c, e = .returned (.slice A n c) ∧ Ext [] w w' ∧ RdRows w' (fun k => w.heap.size ≤ k) A n c L

theorem Split_c (w : World) (F : Nat → Prop) (A : Option Addr) (n c : Nat) (l : List CellV) (cols : Nat) (hr : Rd ECell w F A n c l) (hn : n ≤ 1000000) (hc1 : 2 ≤ cols) (hc2 : cols ≤ 1000) :
    Calls Try.prog 11 [.slice A n c, .int .i64 (cols : Int)].toArray w (RetRows w (splitF l cols)) := by
  have hl := hr.len
  refine calls (n := 57) Try.func11 rfl Try.ntmps11 rfl ?_
  refine CW.sub (H' := SH w [] []) ?_ (Sub.refl _) (fun x hx => SH.start' _ _ hx)
  refine CW.seq (CW.region ?_)
  refine RW.assign rfl rfl ?_
  refine RW.nil (EX.seq (CW.seq (CW.seq (CW.region ?_))))
  refine RW.move rfl rfl ?_
  refine RW.call rfl ca30 rfl (fun w' _ => fits_c w' _) ?_
  refine RW.not_ rfl rfl ?_
  refine RW.nil (EX.seq ?_)
  -- mq: cond
  refine CW.condF rfl (by simp; omega) ?_
  refine CW.skip (EX.seq (CW.seq ?_))
  -- mq: region
  refine CW.region ?_
  refine RW.move rfl rfl ?_
  refine RW.callR rfl ca31 rfl (fun w' hw' => plain_c w' F A n c l (hr.ext hw'.ext (by simp)) hn) (fun wa wb lA0 ln0 lc0 hwa heb hwb hrd0 => ?_)
  refine RW.assign rfl rfl ?_
  refine RW.nil (EX.seq (CW.seq ?_))
  -- mq: region
  refine CW.ownNil 45 2 ?_
  refine CW.region ?_
  refine RW.assign rfl rfl ?_
  refine RW.nil (EX.seq (CW.seq (CW.block ?_)))
  -- mq: loop
  have hpl := plainF_length l
  refine CW.loop (ι := SplitSt) (fun s => [(1, .int .i64 (cols : Int)), (5, .slice s.lA s.ln s.lc), (6, s.v)]) (fun s => SH s.wi s.v.ownBlock.toList [own 45 2 s.v s.rs.length (ERow.all s.rs)]) (SplitOk w l.length cols (splitF l cols)) (fun s => if s.dn = [] then l.length + 1 else s.left.length) ?_ ?_
  · refine fun w' hw' => ⟨⟨w', .slice none 0 0, [], [], lA0, ln0, lc0, plainF l, l.length + 1⟩, ⟨(hwa.ext.trans0 heb).trans0 hw'.ext, by simp, rfl, (hrd0.ext hw'.ext (by simp)).weak (fun k hk => ⟨Nat.le_trans hwa.ext.size hk, by simp [Value.ownBlock]⟩), by simp [Value.ownBlock], fun _ => (show (plainF l).length < l.length + 1 by rw [hpl]; omega), by simp [splitF], by simp [hpl]⟩, (by repeat (first | exact Sub.nil | refine Sub.cons (by rfl) ?_)), ?_⟩
    exact hw'.only Has.head (own_nodup _ _ _ _ _)
  · rintro ⟨wi, v, rs, dn, lA, ln, lc, left, f⟩ hok
    obtain ⟨e1, nest, conts, leftR, fresh, fuel, spec, size⟩ := hok
    dsimp only at e1 nest conts leftR fresh fuel spec size ⊢
    have hll := leftR.len
    have hrd := congrArg List.length conts
    simp only [List.length_map] at hrd
    refine CW.formOwn (v := v) Has.head (fun Ao co hv hcap hmax hlen hg => ?_)
    subst hv
    refine CW.seq (CW.seq ?_)
    -- mq: region
    refine CW.join ([(21, .bool (decide (rs.length = 0) || decide (0 < ln))), (1, .int .i64 (cols : Int)), (5, .slice lA ln lc), (6, .slice Ao rs.length co)]) (SH wi (Value.slice Ao rs.length co).ownBlock.toList [own 45 2 (.slice Ao rs.length co) rs.length (ERow.all rs)]) ?_ ?_
    · skip
      refine CW.region ?_
      refine RW.move rfl rfl ?_
      refine RW.lenSl Try.underlying24 rfl rfl ?_
      refine RW.eqlI rfl rfl rfl ?_
      refine RW.move rfl rfl ?_
      -- mq: guard slot 17
      refine RW.casesB 17 rfl (fun h => ?_) (fun h => ?_)
      · skip
        have hp := of_decide_eq_true h
        refine RW.guardF rfl rfl rfl h ?_
        refine RW.guardF rfl rfl rfl h ?_
        refine RW.guardF rfl rfl rfl h ?_
        refine RW.pickB rfl rfl h rfl ?_
        refine RW.nil ?_
        -- mq: joinend
        exact EX.jn (Sub.cons (congrArg (fun x => some (Value.bool x)) (by rw [decide_eq_true (show rs.length = 0 by omega)]; rfl)) (by repeat (first | exact Sub.nil | refine Sub.cons (by rfl) ?_))) (fun _ h => h)
      · skip
        have hp := of_decide_eq_false h
        refine RW.guardT rfl rfl h ?_
        refine RW.move rfl rfl ?_
        refine RW.guardT rfl rfl h ?_
        refine RW.lenSl Try.underlying22 rfl rfl ?_
        refine RW.guardT rfl rfl h ?_
        refine RW.gtr rfl rfl rfl ?_
        refine RW.pickC rfl rfl h rfl ?_
        refine RW.nil ?_
        -- mq: joinend
        exact EX.jn (Sub.cons (congrArg (fun x => some (Value.bool x)) (by rw [decide_eq_false (show ¬ rs.length = 0 by omega), Bool.false_or]; exact decide_eq_decide.2 (by omega))) (by repeat (first | exact Sub.nil | refine Sub.cons (by rfl) ?_))) (fun _ h => h)
    · skip
      refine EX.seq ?_
      -- mq: cond
      first | refine CW.condD rfl (fun hgo => ?_) (fun hgo => ?_) | refine CW.cond rfl (fun hgo => ?_) (fun hgo => ?_)
      · skip
        have hcond : dn = [] ∨ left ≠ [] := by
          simp only [Bool.or_eq_true, decide_eq_true_eq] at hgo
          rcases hgo with h | h
          · exact .inl (List.eq_nil_of_length_eq_zero (by omega))
          · exact .inr (fun e => by subst e; simp at hll; omega)
        have hf := fuel hcond
        obtain ⟨f, rfl⟩ : ∃ f', f = f' + 1 := ⟨f - 1, by omega⟩
        rw [if_pos hcond] at spec
        have htk := takeF_le left cols
        refine CW.skip (EX.seq (CW.block (CW.seq (CW.region ?_))))
        refine RW.move rfl rfl ?_
        refine RW.move rfl rfl ?_
        refine RW.call rfl ca32 rfl (fun w' hw' => take_c w' _ lA ln lc left cols (leftR.ext hw'.ext (fun k hk hm => hk.2 (by simpa using hm))) (by omega) (by omega) hc2) ?_
        refine RW.assign rfl rfl ?_
        refine RW.nil (EX.seq (CW.seq ?_))
        -- mq: region
        refine CW.region ?_
        refine RW.move rfl rfl ?_
        refine RW.make cols sl22 rfl rfl rfl rfl (by simp only [maxLen]; omega) (by omega) (fun g hgl hgf => ?_)
        refine RW.assign rfl rfl ?_
        refine RW.nil (EX.seq (CW.seq ?_))
        -- mq: region
        rw [zeros_cell]
        have hcutA := leftR.cut (p := 0) (q := takeF left cols) (by omega) (by omega)
        have hcutB := leftR.cut (p := takeF left cols) (q := ln) (by omega) (Nat.le_refl _)
        rw [List.drop_zero] at hcutA
        have hlcap := leftR.cap
        refine CW.region ?_
        refine RW.move rfl rfl ?_
        refine RW.move rfl rfl ?_
        refine RW.move rfl rfl ?_
        refine RW.sliceSl 0 (takeF left cols) sl22 rfl rfl (.inr ⟨rfl, rfl⟩) (.inl ⟨_, _, rfl, rfl, rfl⟩) (by omega) (by omega) ?_
        refine RW.copyOwn (E := ECell) (src := left.take (takeF left cols)) sl22 rfl rfl rfl (by first | exact Upd.head | exact Upd.tail Upd.head | exact Upd.tail (Upd.tail Upd.head) | exact Upd.tail (Upd.tail (Upd.tail Upd.head)) | exact Upd.tail (Upd.tail (Upd.tail (Upd.tail Upd.head))) | exact Upd.tail (Upd.tail (Upd.tail (Upd.tail (Upd.tail Upd.head)))) | exact Upd.tail (Upd.tail (Upd.tail (Upd.tail (Upd.tail (Upd.tail Upd.head)))))) (fun w' hw' => hcutA.ext hw'.ext (fun k hk hm => hk.2 (by simpa using hm))) (by omega) ?_
        refine RW.nil (EX.seq (CW.seq (CW.seq ?_)))
        -- mq: region
        rw [Nat.sub_zero, all_drop, List.drop_replicate, ← ECell.all_append]
        refine CW.region ?_
        refine RW.move rfl rfl ?_
        refine RW.move rfl rfl ?_
        refine RW.sliceSl (takeF left cols) ln sl22 rfl rfl (.inl ⟨_, _, rfl, rfl, rfl⟩) (.inr ⟨rfl, rfl⟩) (by omega) (by omega) ?_
        refine RW.assign rfl rfl ?_
        refine RW.nil (EX.seq ?_)
        -- mq: seq
        have htl : left.take ln = left := List.take_of_length_le (by omega)
        rw [htl] at hcutB
        have hrl := restOf_length left cols
        refine CW.join ([(1, .int .i64 (cols : Int)), (5, .slice (if lc = takeF left cols then lA else lA.map (·.add (takeF left cols * 8))) (ln - takeF left cols) (lc - takeF left cols)), (6, .slice Ao rs.length co), (8, .slice (some ⟨g, 0, none⟩) cols cols)]) (SH wi (Value.slice Ao rs.length co).ownBlock.toList [own 34 8 (.slice (some ⟨g, 0, none⟩) cols cols) cols (ECell.all (rowOf left cols)), own 45 2 (.slice Ao rs.length co) rs.length (ERow.all rs)]) ?_ ?_
        · skip
          refine CW.seq (CW.region ?_)
          refine RW.move rfl rfl ?_
          refine RW.move rfl rfl ?_
          refine RW.sub_ rfl rfl rfl (wrap64 (by omega) (by omega)) ?_
          refine RW.eqlI rfl rfl rfl ?_
          refine RW.move rfl rfl ?_
          -- mq: guard slot 39
          refine RW.casesB 39 rfl (fun h1 => ?_) (fun h1 => ?_)
          · skip
            have h1p := of_decide_eq_true h1
            refine RW.guardT rfl rfl h1 ?_
            refine RW.move rfl rfl ?_
            refine RW.guardT rfl rfl h1 ?_
            refine RW.lenSl Try.underlying22 rfl rfl ?_
            refine RW.guardT rfl rfl h1 ?_
            refine RW.gtr rfl rfl rfl ?_
            refine RW.pickB rfl rfl h1 rfl ?_
            refine RW.nil (EX.seq ?_)
            -- mq: cond
            first | refine CW.condD rfl (fun h2 => ?_) (fun h2 => ?_) | refine CW.cond rfl (fun h2 => ?_) (fun h2 => ?_)
            · skip
              have hne : restOf left cols ≠ [] := fun e => by rw [e] at hrl; simp at hrl; omega
              have hrow : rowOf left cols = (left.take (takeF left cols) ++ List.replicate (cols - takeF left cols) zeroC).set (takeF left cols) padC := by rw [rowOf, if_pos ⟨by omega, hne⟩]
              have hX : (left.take (takeF left cols) ++ List.replicate (cols - takeF left cols) zeroC)[takeF left cols]? = some zeroC := by
                rw [List.getElem?_append_right (by rw [List.length_take]; omega), List.length_take, List.getElem?_replicate, if_pos (by omega)]
              have hset := ECell.all_set (j := 2) (a' := padC) (v := .int .i64 3) hX (by decide) rfl
              refine CW.region ?_
              refine RW.move rfl rfl ?_
              refine RW.move rfl rfl ?_
              refine RW.ixAddr (q := takeF left cols) sl22 rfl rfl rfl (by first | rfl | assumption) (by omega) (by omega) ?_
              refine RW.fieldP fl34x2 rfl rfl ?_
              refine RW.storeOwn1 (o := takeF left cols * 8 + 2) sc3 rfl rfl (by first | exact Upd.head | exact Upd.tail Upd.head | exact Upd.tail (Upd.tail Upd.head) | exact Upd.tail (Upd.tail (Upd.tail Upd.head)) | exact Upd.tail (Upd.tail (Upd.tail (Upd.tail Upd.head))) | exact Upd.tail (Upd.tail (Upd.tail (Upd.tail (Upd.tail Upd.head)))) | exact Upd.tail (Upd.tail (Upd.tail (Upd.tail (Upd.tail (Upd.tail Upd.head)))))) (by simp [Addr.add_lit]) rfl (by rw [ECell.all_length]; show _ < _ * 8; simp; omega) ?_
              refine RW.nil ?_
              -- mq: joinend
              refine EX.jn (by repeat (first | exact Sub.nil | refine Sub.cons (by rfl) ?_)) (fun w' hw' => ?_)
              rw [hrow, ← hset]
              exact hw'
            · skip
              refine CW.skip ?_
              -- mq: joinend
              have hrow : rowOf left cols = left.take (takeF left cols) ++ List.replicate (cols - takeF left cols) zeroC := by
                rw [rowOf, if_neg (fun h => h.2 (List.eq_nil_of_length_eq_zero (by omega)))]
              refine EX.jn (by repeat (first | exact Sub.nil | refine Sub.cons (by rfl) ?_)) (fun w' hw' => ?_)
              rw [hrow]
              exact hw'
          · skip
            have h1p := of_decide_eq_false h1
            refine RW.guardF rfl rfl rfl h1 ?_
            refine RW.guardF rfl rfl rfl h1 ?_
            refine RW.guardF rfl rfl rfl h1 ?_
            refine RW.pickC rfl rfl h1 rfl ?_
            refine RW.nil (EX.seq ?_)
            -- mq: cond
            refine CW.condF rfl (rfl) ?_
            refine CW.skip ?_
            -- mq: joinend
            have hrow : rowOf left cols = left.take (takeF left cols) ++ List.replicate (cols - takeF left cols) zeroC := by
              rw [rowOf, if_neg (fun h => h1p (by omega))]
            refine EX.jn (by repeat (first | exact Sub.nil | refine Sub.cons (by rfl) ?_)) (fun w' hw' => ?_)
            rw [hrow]
            exact hw'
        · skip
          refine EX.seq (CW.region ?_)
          refine RW.move rfl rfl ?_
          refine RW.move rfl rfl ?_
          refine RW.move rfl rfl ?_
          refine RW.lenSl Try.underlying24 rfl rfl ?_
          refine RW.gtr rfl rfl rfl ?_
          refine RW.buildS bu45 rfl rfl rfl ?_
          refine RW.buildSlc sl24 rfl rfl rfl rfl (fun g54 hg54 hf54 => ?_)
          refine RW.append1 sl24 rfl rfl rfl (by first | exact Rem.head | exact Rem.tail Rem.head | exact Rem.tail (Rem.tail Rem.head) | exact Rem.tail (Rem.tail (Rem.tail Rem.head)) | exact Rem.tail (Rem.tail (Rem.tail (Rem.tail Rem.head))) | exact Rem.tail (Rem.tail (Rem.tail (Rem.tail (Rem.tail Rem.head)))) | exact Rem.tail (Rem.tail (Rem.tail (Rem.tail (Rem.tail (Rem.tail Rem.head)))))) (fun _ => by first | exact Upd.head | exact Upd.tail Upd.head | exact Upd.tail (Upd.tail Upd.head) | exact Upd.tail (Upd.tail (Upd.tail Upd.head)) | exact Upd.tail (Upd.tail (Upd.tail (Upd.tail Upd.head))) | exact Upd.tail (Upd.tail (Upd.tail (Upd.tail (Upd.tail Upd.head)))) | exact Upd.tail (Upd.tail (Upd.tail (Upd.tail (Upd.tail (Upd.tail Upd.head)))))) rfl (by repeat (first | exact Ones.nil | exact Enc.ones _ _ | refine Ones.cons rfl ?_)) (by simp only [maxLen]; omega) (by omega) (fun v55 hv55 => ?_)
          refine RW.assign rfl rfl ?_
          refine RW.nil (EX.bkN ?_)
          -- mq: loopend
          have htp : left ≠ [] → 1 ≤ takeF left cols := fun h => takeF_pos left cols hc1 h
          refine EX.lpW (fun w' hw' => ⟨⟨w', v55, rs ++ [⟨some ⟨g, 0, none⟩, cols, cols, decide ((0 : Int) < (rs.length : Int))⟩], dn ++ [(rowOf left cols, decide (dn ≠ []))], _, _, _, restOf left cols, f⟩, ?_, ?_, (by repeat (first | exact Sub.nil | refine Sub.cons (by rfl) ?_)), ?_⟩)
          · have havoid : ∀ k, (w.heap.size ≤ k ∧ (Value.slice Ao rs.length co).ownBlock ≠ some k) ∧ k < wi.heap.size → w.heap.size ≤ k ∧ v55.ownBlock ≠ some k := fun k hk => ⟨hk.1.1, fun e => by
              rcases hv55 k e with h | h
              · exact hk.1.2 h
              · omega⟩
            have hcont : decide ((0 : Int) < (rs.length : Int)) = decide (dn ≠ []) := by
              refine decide_eq_decide.2 ⟨fun h e => ?_, fun h => ?_⟩
              · have h0 : rs.length = 0 := by rw [hrd, e]; rfl
                omega
              · have := List.length_pos_iff.2 h; omega
            refine ⟨e1.trans hw'.ext (fun x hx hlt => absurd (fresh x (by simpa using hx)) (by omega)), ?_, ?_, ?_, ?_, ?_, ?_, ?_⟩
            · intro k r row hk hrow
              by_cases hkl : k < rs.length
              · rw [List.getElem?_append_left hkl] at hk
                rw [List.getElem?_append_left (by omega)] at hrow
                exact ((nest k r row hk hrow).strong (by decide)).ext hw'.ext (fun k hk hm => hk.1.2 (by simpa using hm)) |>.weak havoid
              · rw [List.getElem?_append_right (by omega)] at hk hrow
                have hk0 : k - rs.length = 0 := by
                  have := (List.getElem?_eq_some_iff.1 hk).1
                  simp at this
                  omega
                rw [hk0] at hk
                rw [show k - dn.length = 0 by omega] at hrow
                simp only [List.getElem?_cons_zero, Option.some.injEq] at hk hrow
                subst hk; subst hrow
                have hrl2 : (rowOf left cols).length = cols := by
                  unfold rowOf
                  split <;> simp [List.length_take] <;> omega
                obtain ⟨A1, c1, he1, hrd1⟩ := Rd.of_own (E := ECell) (hw'.has Has.head) hrl2
                cases he1
                refine hrd1.weak (fun k hk => ?_)
                have hkg : k = g := by simpa [Value.ownBlock] using hk.symm
                subst hkg
                refine ⟨Nat.le_trans e1.size hgl, fun e => ?_⟩
                have hnd := hw'.nodup
                rw [feet_cons, List.nodup_append] at hnd
                have e' : (own 45 2 v55 (rs.length + 1) (ERow.all rs ++ RowV.enc ⟨some ⟨k, 0, none⟩, cols, cols, decide ((0 : Int) < (rs.length : Int))⟩)).foot = [k] := by show v55.ownBlock.toList = [k]; rw [e]; rfl
                exact hnd.2.2 k (List.mem_singleton.2 rfl) k (by show k ∈ v55.ownBlock.toList ++ []; rw [e]; simp) rfl
            · simp only [List.map_append, conts, List.map_cons, List.map_nil, hcont]
            · exact ((hcutB.strong (by decide)).ext hw'.ext (fun k hk hm => hk.1.2 (by simpa using hm))).weak havoid
            · intro k hk
              rcases hv55 k hk with h | h
              · exact fresh k h
              · exact Nat.le_trans e1.size h.1
            · intro h
              have hrne : restOf left cols ≠ [] := by
                rcases h with h | h
                · simp at h
                · exact h
              have hlne : left ≠ [] := fun e => hrne (by rw [restOf, e]; simp)
              have := htp hlne
              show (restOf left cols).length < f
              omega
            · show splitF l cols = (dn ++ [(rowOf left cols, decide (dn ≠ []))]) ++ (if dn ++ [(rowOf left cols, decide (dn ≠ []))] = [] ∨ restOf left cols ≠ [] then splitAux f (restOf left cols) cols (decide (dn ++ [(rowOf left cols, decide (dn ≠ []))] ≠ [])) else [])
              rw [spec, splitAux, List.append_assoc]
              by_cases hre : restOf left cols = [] <;> simp [hre]
            · show (dn ++ [(rowOf left cols, decide (dn ≠ []))]).length + (restOf left cols).length ≤ l.length + 1
              rw [List.length_append, List.length_singleton, hrl]
              by_cases hlne : left = []
              · rcases hcond with h | h
                · subst h; subst hlne; simp
                · exact absurd hlne h
              · have := htp hlne
                omega
          · show (if dn ++ [(rowOf left cols, decide (dn ≠ []))] = [] then l.length + 1 else (restOf left cols).length) < (if dn = [] then l.length + 1 else left.length)
            rw [if_neg (by simp), hrl]
            by_cases hlne : left = []
            · rcases hcond with h | h
              · rw [if_pos h, hlne]; simp
              · exact absurd hlne h
            · have := htp hlne
              split <;> omega
          · have := hw'.only (Has.tail Has.head) (own_nodup _ _ _ _ _)
            show SH w' v55.ownBlock.toList [own 45 2 v55 (rs ++ [_]).length (ERow.all (rs ++ [_]))] w'
            rw [List.length_append, Enc.all_snoc]
            exact this
      · skip
        refine CW.exit (EX.seqE (EX.lpE (EX.bkE (EX.seq (CW.seq (CW.region ?_))))))
        refine RW.move rfl rfl ?_
        refine RW.assign rfl rfl ?_
        refine RW.nil (EX.seq (CW.ret ?_))
        refine EX.fin1 Try.results11 rfl (fun wz hw => ?_)
        -- mq: done
        have hdn : dn ≠ [] ∧ left = [] := by
          simp only [Bool.or_eq_false_iff, decide_eq_false_iff_not] at hgo
          exact ⟨fun e => hgo.1 (by rw [hrd, e]; rfl), List.eq_nil_of_length_eq_zero (by omega)⟩
        have hnc : ¬ (dn = [] ∨ left ≠ []) := by simp [hdn.1, hdn.2]
        rw [if_neg hnc, List.append_nil] at spec
        obtain ⟨A1, c1, he1, hrd1⟩ := Rd.of_own (E := ERow) (hw.has Has.head) rfl
        cases he1
        refine ⟨_, _, _, rfl, e1.trans hw.ext (fun x hx hlt => absurd (fresh x (by simpa using hx)) (by omega)), ⟨rs, hrd1.weak (fun k hk => fresh k hk), ?_, fun k r row hk hrow => ?_⟩⟩
        · rw [spec]; exact conts
        · rw [spec] at hrow
          exact ((nest k r row hk hrow).ext hw.ext (fun k hk hm => hk.2 (by simpa using hm))).weak (fun k hk => hk.1)
end Go.Proofs.Ytmdmdlfdijdhgaa.Mq
