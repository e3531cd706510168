/- attributes: the walk of Text -/
import Derived.Test.YtjplfonmdjnplaaDoorAsA
namespace Go.Proofs.YtjplfonmdjnplaaDoor.Mq
open Go Go.RowKit Go.Proofs

def EPr : Enc (Nat × Nat) := ⟨fun p => [.int .i64 (p.1 : Int), .int .i64 (p.2 : Int)], 2, fun _ => rfl, fun _ => by repeat (first | exact Ones.nil | refine Ones.cons rfl ?_)⟩
def flagN : List (Nat × Nat) := [(1, 1), (2, 2), (3, 4), (4, 8), (5, 16), (7, 32), (8, 64), (9, 128), (21, 256), (53, 512)]
def flagsL (fl k : Nat) : List Int := ((flagN.take k).filter (fun p => hasF fl p.2)).map (fun p => (p.1 : Int))
theorem flagsL_succ {fl k : Nat} {p : Nat × Nat} (h : flagN[k]? = some p) : flagsL fl (k + 1) = if hasF fl p.2 = true then flagsL fl k ++ [(p.1 : Int)] else flagsL fl k := by
  unfold flagsL
  rw [take_snoc' h, List.filter_append, List.map_append]
  by_cases hh : hasF fl p.2 = true <;> simp [hh]
theorem flagsL_len (fl k : Nat) : (flagsL fl k).length ≤ 10 := by
  unfold flagsL
  rw [List.length_map]
  have h1 := List.length_filter_le (fun p => hasF fl p.2) (flagN.take k)
  have h2 : (flagN.take k).length ≤ 10 := by rw [List.length_take]; exact Nat.min_le_right _ _
  omega
theorem and_has : ∀ p ∈ flagN, ∀ n, n < 1024 → decide (((n &&& p.2 : Nat) : Int) ≠ 0) = hasF n p.2 := by decide +kernel
theorem flagN_lt : ∀ p ∈ flagN, p.2 < 1024 ∧ p.1 < 1024 := by decide
theorem and_i64 {n f : Nat} (hn : n < 1024) (hf : f < 1024) : IntKind.i64.wrap ((BitVec.ofInt IntKind.i64.bits (n : Int) &&& BitVec.ofInt IntKind.i64.bits (f : Int)).toNat : Int) = ((n &&& f : Nat) : Int) :=
  and_eq (m := n) (n := f) rfl rfl (show n < 18446744073709551616 by omega) (show f < 18446744073709551616 by omega) (wrapI64 (Int.natCast_nonneg _) (by have := Nat.and_le_left (n := n) (m := f); omega))
def textL (a : AtV) : List Int := 0 :: flagsL a.fl.toNat 10 ++ paintL a.fk a.fn 38 ++ paintL a.bk a.bn 48
def textF (a : AtV) : List UInt8 := if rightF a = true then numsT (textL a) else []
theorem colF_range {k n : Int} (h : colF k n = true) : 0 ≤ n ∧ n < 16777216 := by
  unfold colF at h
  have := of_decide_eq_true h
  omega
theorem paintL_len (k n p : Int) : (paintL k n p).length ≤ 5 := by unfold paintL; split <;> (try split) <;> simp
theorem textL_64 {fk fn bk bn : Int} {fl : Nat} (h1 : colF fk fn = true) (h2 : colF bk bn = true) (hfl : fl < 1024) : ∀ x ∈ textL ⟨fk, fn, bk, bn, (fl : Int)⟩, -9223372036854775808 ≤ x ∧ x ≤ 9223372036854775807 := by
  have hp : ∀ k n p : Int, 0 ≤ n ∧ n < 16777216 → 0 ≤ p ∧ p ≤ 100 → ∀ x ∈ paintL k n p, -9223372036854775808 ≤ x ∧ x ≤ 9223372036854775807 := by
    intro k n p hn hp x hx
    unfold paintL at hx
    split at hx
    · simp only [List.mem_cons, List.not_mem_nil, or_false] at hx
      omega
    · split at hx
      · simp only [List.mem_cons, List.not_mem_nil, or_false] at hx
        omega
      · cases hx
  intro x hx
  rw [textL] at hx
  rcases List.mem_append.1 hx with hx | hx
  · rcases List.mem_append.1 hx with hx | hx
    · rcases List.mem_cons.1 hx with rfl | hx
      · omega
      · obtain ⟨p, hp1, rfl⟩ := List.mem_map.1 hx
        have := (flagN_lt p (List.mem_of_mem_take (List.mem_filter.1 hp1).1)).2
        omega
    · exact hp _ _ _ (colF_range h1) (by omega) x hx
  · exact hp _ _ _ (colF_range h2) (by omega) x hx
theorem text_c (w : World) (hg : Gl w) (a : AtV) (h64 : -9223372036854775808 ≤ a.fl ∧ a.fl ≤ 9223372036854775807) :
    Calls Tryd.prog 25 [atV a].toArray w (fun e w' => e = .returned (.string (bs (textF a))) ∧ Ext [] w w') := by
  refine calls (n := 49) Tryd.func25 rfl Tryd.ntmps25 rfl ?_
  refine CW.sub (H' := SH w [] []) ?_ (Sub.refl _) (fun x hx => SH.start' _ _ hx)
  refine CW.seq (CW.region ?_)
  refine RW.boxA rfl rfl (fun g1 hg1 hf1 => ?_)
  refine RW.assign rfl rfl ?_
  refine RW.nil (EX.seq (CW.seq (CW.seq (CW.region ?_))))
  refine RW.loadBA ag32 rfl rfl (by first | exact Has.head | exact Has.tail Has.head | exact Has.tail (Has.tail Has.head) | exact Has.tail (Has.tail (Has.tail Has.head)) | exact Has.tail (Has.tail (Has.tail (Has.tail Has.head))) | exact Has.tail (Has.tail (Has.tail (Has.tail (Has.tail Has.head)))) | exact Has.tail (Has.tail (Has.tail (Has.tail (Has.tail (Has.tail Has.head)))))) rfl rfl ?_
  -- mq: op 1: ('Op.call', ('Call.mk', ('Callee.value', ('Operand.func', '34')), ('arr', ('Operand.tmp', '6')), ('arr', '32'))) -> slot 7 ("attr.go:233")
  refine RW.call rfl ca34 rfl (fun w' _ => right_c w' a h64) ?_
  refine RW.not_ rfl rfl ?_
  refine RW.nil (EX.seq ?_)
  -- mq: cond
  first | refine CW.condD rfl (fun h0 => ?_) (fun h0 => ?_) | refine CW.cond rfl (fun h0 => ?_) (fun h0 => ?_)
  · skip
    refine CW.seq (CW.region ?_)
    refine RW.assign rfl rfl ?_
    refine RW.nil (EX.seq (CW.ret (EX.seqR ?_)))
    refine EX.fin1 Tryd.results25 rfl (fun wz hw => ?_)
    -- mq: done
    exact ⟨by rw [textF, if_neg (by simpa using h0)], hw.ext⟩
  · skip
    have hr : rightF a = true := by simpa using h0
    rw [textF, if_pos hr]
    obtain ⟨fk, fn, bk, bn, fli⟩ := a
    have hr2 := hr
    simp only [rightF, Bool.and_eq_true, decide_eq_true_eq] at hr2
    obtain ⟨hc1, hc2, hf0, hf1, _⟩ := hr2
    obtain ⟨fl, rfl⟩ : ∃ m : Nat, fli = m := ⟨fli.toNat, by omega⟩
    have hfl : fl < 1024 := by omega
    refine CW.skip (EX.seq (CW.seq (CW.region ?_)))
    refine RW.buildSlc sl44 rfl rfl rfl rfl (fun g9 hg9 hf9 => ?_)
    refine RW.assign rfl rfl ?_
    refine RW.nil (EX.seq (CW.seq (CW.seq ?_)))
    -- mq: region
    refine CW.ownBlk (m := 1) (sz := 1) (by first | exact Upd.head | exact Upd.tail Upd.head | exact Upd.tail (Upd.tail Upd.head) | exact Upd.tail (Upd.tail (Upd.tail Upd.head)) | exact Upd.tail (Upd.tail (Upd.tail (Upd.tail Upd.head))) | exact Upd.tail (Upd.tail (Upd.tail (Upd.tail (Upd.tail Upd.head)))) | exact Upd.tail (Upd.tail (Upd.tail (Upd.tail (Upd.tail (Upd.tail Upd.head)))))) rfl (by decide) ?_
    refine CW.region ?_
    refine RW.buildR ba33 rfl rfl rfl ?_
    refine RW.buildR ba33 rfl rfl rfl ?_
    refine RW.buildR ba33 rfl rfl rfl ?_
    refine RW.buildR ba33 rfl rfl rfl ?_
    refine RW.buildR ba33 rfl rfl rfl ?_
    refine RW.buildR ba33 rfl rfl rfl ?_
    refine RW.buildR ba33 rfl rfl rfl ?_
    refine RW.buildR ba33 rfl rfl rfl ?_
    refine RW.buildR ba33 rfl rfl rfl ?_
    refine RW.buildR ba33 rfl rfl rfl ?_
    refine RW.buildSlc sl60 rfl rfl rfl rfl (fun g20 hg20 hf20 => ?_)
    refine RW.lenSl Tryd.underlying60 rfl rfl ?_
    refine RW.move rfl rfl ?_
    refine RW.nil (EX.seq (CW.block ?_))
    -- mq: loop
    refine CW.loop (ι := Nat × Value) (fun t => [(1, .pointer (some ⟨g1, 0, none⟩)), (3, t.2), (20, .slice (some ⟨g20, 0, none⟩) 10 10), (21, .int .i64 10), (22, .int .i64 (t.1 : Int))]) (fun t => SH w [] [blk g20 (EPr.all flagN) 33, own 3 1 t.2 (0 :: flagsL fl t.1).length (EInt.all (0 :: flagsL fl t.1)), blk g1 [.int .i64 fk, .int .i64 fn, .int .i64 bk, .int .i64 bn, .int .i64 (fl : Int)] 32]) (fun t => t.1 ≤ 10) (fun t => 10 - t.1) ?_ ?_
    · exact fun w' hw' => ⟨(0, _), Nat.zero_le _, (by repeat (first | exact Sub.nil | refine Sub.cons (by rfl) ?_)), hw'⟩
    · rintro ⟨k, u⟩ hk
      dsimp only at hk ⊢
      refine CW.seq (CW.region ?_)
      refine RW.lss rfl rfl rfl ?_
      refine RW.nil (EX.seq (CW.seq ?_))
      -- mq: cond
      first | refine CW.condD rfl (fun hlt => ?_) (fun hlt => ?_) | refine CW.cond rfl (fun hlt => ?_) (fun hlt => ?_)
      · skip
        obtain ⟨p, hp⟩ : ∃ p, flagN[k]? = some p := ⟨flagN[k]'(by show k < 10; omega), List.getElem?_eq_getElem _⟩
        have hpm := List.mem_of_getElem? hp
        have hpl := flagN_lt p hpm
        have hfll := flagsL_len fl k
        have hfl0 : (0 :: flagsL fl k).length ≤ 11 := by simp only [List.length_cons]; omega
        refine CW.skip (EX.seq (CW.seq (CW.block (CW.seq (CW.region ?_)))))
        refine RW.ixAddr (q := k) sl60 rfl rfl rfl (by first | rfl | assumption) (by omega) (by omega) ?_
        refine RW.loadA ag33 rfl rfl (rfl) (fun w' hw' j v hv => by obtain ⟨ad, hA, _, hcl⟩ := (Rd.of_blk (E := EPr) (L := flagN) hw' Has.head rfl (by decide)).at_ hp; cases hA; exact hcl j v hv) ?_
        refine RW.allocA ag33 rfl (fun g5 hg5 hf5 => ?_)
        refine RW.storeA ag33 rfl rfl (by first | exact Upd.head | exact Upd.tail Upd.head | exact Upd.tail (Upd.tail Upd.head) | exact Upd.tail (Upd.tail (Upd.tail Upd.head)) | exact Upd.tail (Upd.tail (Upd.tail (Upd.tail Upd.head))) | exact Upd.tail (Upd.tail (Upd.tail (Upd.tail (Upd.tail Upd.head)))) | exact Upd.tail (Upd.tail (Upd.tail (Upd.tail (Upd.tail (Upd.tail Upd.head)))))) (by first | rfl | exact Enc.len _ _) (by repeat (first | exact Ones.nil | exact Enc.ones _ _ | refine Ones.cons rfl ?_)) (by first | exact Nat.le_of_ble_eq_true rfl | (simp only [Enc.len]; decide)) ?_
        refine RW.nil (EX.seq (CW.seq ?_))
        -- mq: region
        refine CW.region ?_
        refine RW.fieldB fl32x2 rfl rfl ?_
        refine RW.loadB1 sc3 rfl rfl (by first | exact Has.head | exact Has.tail Has.head | exact Has.tail (Has.tail Has.head) | exact Has.tail (Has.tail (Has.tail Has.head)) | exact Has.tail (Has.tail (Has.tail (Has.tail Has.head))) | exact Has.tail (Has.tail (Has.tail (Has.tail (Has.tail Has.head)))) | exact Has.tail (Has.tail (Has.tail (Has.tail (Has.tail (Has.tail Has.head)))))) rfl ?_
        refine RW.ixArr (q := 1) Tryd.underlying33 ar33 rfl rfl rfl (by omega) (by omega) ?_
        refine RW.load1 sc3 rfl rfl (fun w' hw' => hw'.blk_cell Has.head rfl) ?_
        refine RW.and_ (r := ((fl &&& p.2 : Nat) : Int)) rfl rfl rfl (and_i64 hfl hpl.1) ?_
        refine RW.neqI rfl rfl rfl ?_
        refine RW.nil (EX.seq ?_)
        -- mq: cond
        first | refine CW.condD rfl (fun h1 => ?_) (fun h1 => ?_) | refine CW.cond rfl (fun h1 => ?_) (fun h1 => ?_)
        · skip
          have hh : hasF fl p.2 = true := by rw [← and_has p hpm fl hfl]; exact decide_eq_true h1
          refine CW.region ?_
          refine RW.move rfl rfl ?_
          refine RW.ixArr (q := 0) Tryd.underlying33 ar33 rfl rfl rfl (by omega) (by omega) ?_
          refine RW.load1 sc3 rfl rfl (fun w' hw' => hw'.blk_cell Has.head rfl) ?_
          refine RW.buildSlc sl44 rfl rfl rfl rfl (fun g35 hg35 hf35 => ?_)
          refine RW.append1 sl44 rfl rfl rfl (by first | exact Rem.head | exact Rem.tail Rem.head | exact Rem.tail (Rem.tail Rem.head) | exact Rem.tail (Rem.tail (Rem.tail Rem.head)) | exact Rem.tail (Rem.tail (Rem.tail (Rem.tail Rem.head))) | exact Rem.tail (Rem.tail (Rem.tail (Rem.tail (Rem.tail Rem.head)))) | exact Rem.tail (Rem.tail (Rem.tail (Rem.tail (Rem.tail (Rem.tail Rem.head)))))) (fun _ => by first | exact Upd.head | exact Upd.tail Upd.head | exact Upd.tail (Upd.tail Upd.head) | exact Upd.tail (Upd.tail (Upd.tail Upd.head)) | exact Upd.tail (Upd.tail (Upd.tail (Upd.tail Upd.head))) | exact Upd.tail (Upd.tail (Upd.tail (Upd.tail (Upd.tail Upd.head)))) | exact Upd.tail (Upd.tail (Upd.tail (Upd.tail (Upd.tail (Upd.tail Upd.head)))))) rfl (by repeat (first | exact Ones.nil | exact Enc.ones _ _ | refine Ones.cons rfl ?_)) (by simp only [maxLen]; omega) (by omega) (fun v36 hv36 => ?_)
          refine RW.assign rfl rfl ?_
          refine RW.nil (EX.bkN (EX.seq (CW.region ?_)))
          refine RW.add rfl rfl rfl (wrap64 (by omega) (by omega)) ?_
          refine RW.move rfl rfl ?_
          refine RW.nil ?_
          -- mq: loopend
          refine EX.lpN (k + 1, v36) (by dsimp only; omega) (by dsimp only; omega) (by repeat (first | exact Sub.nil | refine Sub.cons (by rfl) ?_)) (fun w' hw' => ?_)
          dsimp only
          rw [flagsL_succ hp, if_pos hh, ← List.cons_append, Enc.all_snoc EInt, List.length_append]
          exact hw'.rem Rem.head
        · skip
          have hh : ¬ hasF fl p.2 = true := by rw [← and_has p hpm fl hfl]; simpa using h1
          refine CW.skip (EX.bkN (EX.seq (CW.region ?_)))
          refine RW.add rfl rfl rfl (wrap64 (by omega) (by omega)) ?_
          refine RW.move rfl rfl ?_
          refine RW.nil ?_
          -- mq: loopend
          refine EX.lpN (k + 1, u) (by dsimp only; omega) (by dsimp only; omega) (by repeat (first | exact Sub.nil | refine Sub.cons (by rfl) ?_)) (fun w' hw' => ?_)
          dsimp only
          rw [flagsL_succ hp, if_neg hh]
          exact hw'.rem Rem.head
      · skip
        have hk10 : k = 10 := by omega
        subst hk10
        have hfll := flagsL_len fl 10
        have hfl0 : (0 :: flagsL fl 10).length ≤ 11 := by simp only [List.length_cons]; omega
        have hp4 := paintL_len fk fn 38
        have hp6 := paintL_len bk bn 48
        refine CW.exit (EX.seqE (EX.lpE (EX.bkE (EX.seq (CW.seq ?_)))))
        -- mq: region
        refine CW.region ?_
        refine RW.move rfl rfl ?_
        refine RW.fieldB fl32x0 rfl rfl ?_
        refine RW.loadBA ag30 rfl rfl (by first | exact Has.head | exact Has.tail Has.head | exact Has.tail (Has.tail Has.head) | exact Has.tail (Has.tail (Has.tail Has.head)) | exact Has.tail (Has.tail (Has.tail (Has.tail Has.head))) | exact Has.tail (Has.tail (Has.tail (Has.tail (Has.tail Has.head)))) | exact Has.tail (Has.tail (Has.tail (Has.tail (Has.tail (Has.tail Has.head)))))) rfl rfl ?_
        -- mq: at
        refine RW.callK rfl ca35 rfl (fun w' hw' => paint_c w' fk fn 38 (colF_range hc1)) (fun w2 w3 A4 n4 c4 hw2 he23 hw3 hlt3 hrd4 => ?_)
        have hn4 := hrd4.len
        have hx13 : Ext [] w w3 := hw2.ext.trans0 he23
        have hcv := hw2.cov
        have e3 := hx13.size
        refine RW.appendSl (E := EInt) (src := paintL fk fn 38) sl44 rfl rfl rfl (fun _ => by first | exact Upd.head | exact Upd.tail Upd.head | exact Upd.tail (Upd.tail Upd.head) | exact Upd.tail (Upd.tail (Upd.tail Upd.head)) | exact Upd.tail (Upd.tail (Upd.tail (Upd.tail Upd.head))) | exact Upd.tail (Upd.tail (Upd.tail (Upd.tail (Upd.tail Upd.head)))) | exact Upd.tail (Upd.tail (Upd.tail (Upd.tail (Upd.tail (Upd.tail Upd.head)))))) (fun w' hw' => hrd4.ext hw'.ext (fun k hk hk2 => by have := hlt3 k hk2; omega)) (by simp only [maxLen]; omega) (by omega) (fun v42 hv42 => ?_)
        refine RW.assign rfl rfl ?_
        refine RW.nil (EX.seq (CW.seq ?_))
        -- mq: region
        refine CW.region ?_
        refine RW.move rfl rfl ?_
        refine RW.fieldB fl32x1 rfl rfl ?_
        refine RW.loadBA ag30 rfl rfl (by first | exact Has.head | exact Has.tail Has.head | exact Has.tail (Has.tail Has.head) | exact Has.tail (Has.tail (Has.tail Has.head)) | exact Has.tail (Has.tail (Has.tail (Has.tail Has.head))) | exact Has.tail (Has.tail (Has.tail (Has.tail (Has.tail Has.head)))) | exact Has.tail (Has.tail (Has.tail (Has.tail (Has.tail (Has.tail Has.head)))))) rfl rfl ?_
        -- mq: at
        refine RW.callK rfl ca35 rfl (fun w' hw' => paint_c w' bk bn 48 (colF_range hc2)) (fun w4 w5 A6 n6 c6 hw4 he45 hw5 hlt5 hrd6 => ?_)
        have hn6 := hrd6.len
        have hcv4 := hw4.cov
        have hx35 : Ext _ w3 w5 := hw4.ext.trans0 he45
        have hx15 : Ext [] w w5 := hx13.trans hx35 (fun x hx hlt => hcv x hx hlt)
        refine RW.appendSl (E := EInt) (src := paintL bk bn 48) sl44 rfl rfl rfl (fun _ => by first | exact Upd.head | exact Upd.tail Upd.head | exact Upd.tail (Upd.tail Upd.head) | exact Upd.tail (Upd.tail (Upd.tail Upd.head)) | exact Upd.tail (Upd.tail (Upd.tail (Upd.tail Upd.head))) | exact Upd.tail (Upd.tail (Upd.tail (Upd.tail (Upd.tail Upd.head)))) | exact Upd.tail (Upd.tail (Upd.tail (Upd.tail (Upd.tail (Upd.tail Upd.head)))))) (fun w' hw' => hrd6.ext hw'.ext (fun k hk hk2 => by have := hlt5 k hk2; omega)) (by simp only [maxLen]; omega) (by omega) (fun v47 hv47 => ?_)
        -- mq: at
        refine RW.formOwn (v := v47) (Has.tail Has.head) (fun A8 c8 hv8 _ _ _ _ => ?_)
        subst hv8
        have hx : (0 :: flagsL fl 10).length + n4 + n6 ≤ 1000 := by omega
        refine RW.call (v := .string (bs (numsT (textL ⟨fk, fn, bk, bn, (fl : Int)⟩)))) rfl ca36 rfl (fun w' hw' => ?_) ?_
        · have hown := hw'.has (Has.tail Has.head)
          rw [show EInt.all (0 :: flagsL fl 10) ++ EInt.all (paintL fk fn 38) ++ EInt.all (paintL bk bn 48) = EInt.all (textL ⟨fk, fn, bk, bn, (fl : Int)⟩) from by simp only [textL, Enc.all_append]; rfl] at hown
          have htl : (textL ⟨fk, fn, bk, bn, (fl : Int)⟩).length = (0 :: flagsL fl 10).length + n4 + n6 := by
            rw [← hn4, ← hn6, textL, List.length_append, List.length_append]; rfl
          obtain ⟨A9, c9, he9, hrd9⟩ := Rd.of_own (E := EInt) hown htl
          cases he9
          exact joinA_c w' (hg.ext (hx15.trans hw'.ext (fun x hx hlt => hcv x (hcv4 x hx (by omega)) hlt))) _ _ _ _ _ hrd9 hx (textL_64 hc1 hc2 hfl)
        refine RW.assign rfl rfl ?_
        refine RW.nil (EX.seq (CW.ret ?_))
        refine EX.fin1 Tryd.results25 rfl (fun wz hw => ?_)
        -- mq: done
        exact ⟨rfl, hx15.trans hw.ext (fun x hx hlt => hcv x (hcv4 x hx (by omega)) hlt)⟩
end Go.Proofs.YtjplfonmdjnplaaDoor.Mq
