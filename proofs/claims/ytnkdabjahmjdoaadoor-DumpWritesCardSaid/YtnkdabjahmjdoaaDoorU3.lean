/- dump: Write, DumpWrites; its argument opened -/
import Derived.Test.YtnkdabjahmjdoaaDoorU2
namespace Go.Proofs.YtnkdabjahmjdoaaDoor.Mq
open Go Go.RowKit Go.Proofs Go.ChangeShapes Go.WideShapes Go.Deep

section
variable {P : Program} {n : Nat} {c : Code} {Q : Post} {l : Fr} {H : World → Prop}
theorem CW.fix (h : ∀ w1, H w1 → CW P n c Q l (SH w1 [] [])) : CW P n c Q l H := fun w hw => h w hw w (SH.start w)
end
theorem join_no {c : UInt8} (hc : c ≠ 32) : ∀ L : List (List UInt8), (∀ x ∈ L, c ∉ x) → c ∉ Lib.join L [32]
  | [], _ => by intro h; cases h
  | [x], h => by rw [Lib.join_one]; exact h x (by simp)
  | x :: y :: r, h => by
    have ih := join_no hc (y :: r) (fun z hz => h z (by simp [hz]))
    rw [joinTwo]
    intro hm
    rcases List.mem_append.1 hm with hm | hm
    · exact h x (by simp) hm
    · rcases List.mem_cons.1 hm with hm | hm
      · exact hc hm
      · exact ih hm
def flatS (L : List BlkV) : List UInt8 := L.flatMap (fun x => lineF x ++ [10])
def allOk (L : List BlkV) : Bool := L.all toldB
theorem flatS_nil : flatS [] = [] := rfl
theorem flatS_succ {L : List BlkV} {i : Nat} {x : BlkV} (h : L[i]? = some x) : flatS (L.take (i + 1)) = flatS (L.take i) ++ (lineF x ++ [10]) := by
  rw [List.take_add_one, h]; simp [flatS]
theorem flatS_le : ∀ L : List BlkV, (∀ x ∈ L, x.Wf ∧ toldB x = true) → (flatS L).length ≤ 12000 * L.length
  | [], _ => Nat.zero_le _
  | x :: r, h => by
    have ih := flatS_le r (fun y hy => h y (by simp [hy]))
    have hx := h x (by simp)
    have := lineF_len hx.1 hx.2
    have e : flatS (x :: r) = lineF x ++ [10] ++ flatS r := by simp [flatS]
    rw [e, List.length_append, List.length_append, List.length_cons]
    simp only [List.length_cons, List.length_nil]
    omega
theorem phaseW_no10 (n : Int) : (10 : UInt8) ∉ phaseW n := by unfold phaseW; repeat (first | decide | split)
theorem lineF_no (b : BlkV) : (10 : UInt8) ∉ lineF b := by
  refine join_no (by decide) _ fun x hx => ?_
  unfold wordsF at hx
  rcases List.mem_cons.1 hx with rfl | hx
  · decide
  rcases List.mem_cons.1 hx with rfl | hx
  · intro h; have := dec_digit _ _ h; revert this; decide
  rcases List.mem_cons.1 hx with rfl | hx
  · exact phaseW_no10 _
  rcases List.mem_cons.1 hx with rfl | hx
  · unfold cutW; split <;> decide
  rcases List.mem_cons.1 hx with rfl | hx
  · unfold codeW; split
    · exact itoa_no (by decide)
    · decide
  rcases List.mem_append.1 hx with hx | hx
  · obtain ⟨p, _, hp⟩ := List.mem_flatMap.1 hx
    simp only [List.mem_cons, List.not_mem_nil, or_false] at hp
    rcases hp with rfl | rfl
    · exact itoa_no (by decide)
    · exact itoa_no (by decide)
  · simp only [List.mem_cons, List.not_mem_nil, or_false] at hx
    rcases hx with rfl | rfl
    · exact hexT_no (by decide)
    · exact hexT_no (by decide)
theorem readF_flat : ∀ (L : List BlkV) (n : Nat), (∀ x ∈ L, x.Wf ∧ toldB x = true) → readF n (flatS L) = (L, 0, 0)
  | [], n, _ => readF_nil n
  | x :: r, n, h => by
    have hx := h x (by simp)
    have ih := readF_flat r (n + 1) (fun y hy => h y (by simp [hy]))
    have hno := lineF_no x
    have e : flatS (x :: r) = lineF x ++ 10 :: flatS r := by simp [flatS]
    have h1 : (10 : UInt8) ∈ flatS (x :: r) := by rw [e]; simp
    have h2 : (flatS (x :: r)).takeWhile (· ≠ 10) = lineF x := by rw [e]; exact (cut_pre hno).1
    have h3 : ((flatS (x :: r)).dropWhile (· ≠ 10)).drop 1 = flatS r := by rw [e]; exact (cut_pre hno).2
    have hp : parseD (lineF x) = (x, 0) := parseD_some ⟨hx.1, hx.2, rfl⟩
    rw [readF, dif_neg (List.ne_nil_of_mem h1), if_pos h1, h2, h3, hp, ih]
    rfl
def writeV (L : List BlkV) : Value := .tuple #[.string (bs (if allOk L = true then flatS L else [])), .int .i64 (if allOk L = true then 0 else 1)]
theorem writeV_no {L : List BlkV} (h : ¬ allOk L = true) : writeV L = .tuple #[.string (bs []), .int .i64 1] := by rw [writeV, if_neg h, if_neg h]
theorem writeV_ok {L : List BlkV} (h : allOk L = true) : writeV L = .tuple #[.string (bs (flatS L)), .int .i64 0] := by rw [writeV, if_pos h, if_pos h]
theorem allOk_not {L : List BlkV} {x : BlkV} (hx : x ∈ L) (h : ¬ toldB x = true) : ¬ allOk L = true := fun e => h (List.all_eq_true.1 e x hx)
theorem allOk_of {L : List BlkV} (h : ∀ x ∈ L, toldB x = true) : allOk L = true := List.all_eq_true.2 h
theorem Write_c (w : World) (hg : GD w) (F : Nat → Prop) (A : Option Addr) (n c : Nat) (L : List BlkV) (hr : Rd EBlk w F A n c L) (hn : n ≤ 60) (hd : ∀ x ∈ L, x.Wf) :
    Calls Tryd.prog 22 [.slice A n c].toArray w (fun e w' => e = .returned (writeV L) ∧ Ext [] w w') := by
  have hln := hr.len
  refine calls (n := 28) Tryd.func22 rfl Tryd.ntmps22 rfl ?_
  refine CW.sub (H' := SH w [] []) ?_ (Sub.refl _) (fun x hx => SH.start' _ _ hx)
  refine CW.seq (CW.region ?_)
  refine RW.assign rfl rfl ?_
  refine RW.assign rfl rfl ?_
  refine RW.nil (EX.seq (CW.seq (CW.region ?_)))
  refine RW.allocA ag79 rfl (fun g4 hg4 hf4 => ?_)
  refine RW.nil (EX.seq (CW.seq (CW.seq (CW.region ?_))))
  refine RW.move rfl rfl ?_
  refine RW.lenSl Tryd.underlying28 rfl rfl ?_
  refine RW.move rfl rfl ?_
  refine RW.nil (EX.seq (CW.block ?_))
  -- mq: loop
  refine CW.loop (ι := Nat) (fun i => [(4, .pointer (some ⟨g4, 0, none⟩)), (9, .slice A n c), (10, .int .i64 (n : Int)), (11, .int .i64 (i : Int))]) (fun i => BldH w g4 (flatS (L.take i))) (fun i => i ≤ n ∧ (∀ x ∈ L.take i, toldB x = true) ∧ (flatS (L.take i)).length ≤ 20000 * i) (fun i => n - i) ?_ ?_
  · exact fun w' hw' => ⟨0, ⟨Nat.zero_le _, by simp, Nat.le_refl _⟩, (by repeat (first | exact Sub.nil | refine Sub.cons (by rfl) ?_)), BldH.start hg4 hw'⟩
  · rintro i ⟨hi, hall, hfl⟩
    refine CW.fix (fun w1 hB => ?_)
    have hr1 := hr.ext hB.1 (by simp)
    refine CW.seq (CW.region ?_)
    refine RW.lss rfl rfl rfl ?_
    refine RW.nil (EX.seq (CW.seq ?_))
    -- mq: cond
    first | refine CW.condD rfl (fun hlt => ?_) (fun hlt => ?_) | refine CW.cond rfl (fun hlt => ?_) (fun hlt => ?_)
    · skip
      obtain ⟨x, hx⟩ : ∃ x, L[i]? = some x := ⟨L[i]'(by omega), List.getElem?_eq_getElem _⟩
      have hxm := List.mem_of_getElem? hx
      have hwf := hd x hxm
      obtain ⟨ad, hA, _, hcl⟩ := hr1.at_ hx
      have hLi := fun w' (hw' : Ext [] w1 w') => line_c w' (hg.ext (hB.1.trans0 hw')).l x hwf
      refine CW.skip (EX.seq (CW.seq (CW.block (CW.seq (CW.region ?_)))))
      refine RW.ixAddr (q := i) sl28 rfl rfl rfl (by first | rfl | assumption) (by omega) (by omega) ?_
      refine RW.loadA ag26 rfl rfl (rfl) (fun w' hw' j u hj => hw'.base_cell (hcl j u hj) (by simp)) ?_
      refine RW.allocA ag26 rfl (fun g6 hg6 hf6 => ?_)
      refine RW.storeA ag26 rfl rfl (by first | exact Upd.head | exact Upd.tail Upd.head | exact Upd.tail (Upd.tail Upd.head) | exact Upd.tail (Upd.tail (Upd.tail Upd.head)) | exact Upd.tail (Upd.tail (Upd.tail (Upd.tail Upd.head))) | exact Upd.tail (Upd.tail (Upd.tail (Upd.tail (Upd.tail Upd.head)))) | exact Upd.tail (Upd.tail (Upd.tail (Upd.tail (Upd.tail (Upd.tail Upd.head)))))) (by first | rfl | exact Enc.len _ _) (by repeat (first | exact Ones.nil | exact Enc.ones _ _ | refine Ones.cons rfl ?_)) (by first | exact Nat.le_of_ble_eq_true rfl | (simp only [Enc.len]; decide)) ?_
      refine RW.nil (EX.seq (CW.seq ?_))
      -- mq: region
      refine CW.sub (H' := SH w1 [] [blk g6 x.cells 26]) ?_ (Sub.refl _) (fun y hy => hy.blkEq (by kernel_rfl))
      by_cases hok : toldB x = true
      · skip
        have hle := lineF_len hwf hok
        have hfs := flatS_succ hx
        rw [lineR, if_pos hok] at hLi
        refine CW.region ?_
        refine RW.loadBA ag26 rfl rfl (by first | exact Has.head | exact Has.tail Has.head | exact Has.tail (Has.tail Has.head) | exact Has.tail (Has.tail (Has.tail Has.head)) | exact Has.tail (Has.tail (Has.tail (Has.tail Has.head))) | exact Has.tail (Has.tail (Has.tail (Has.tail (Has.tail Has.head)))) | exact Has.tail (Has.tail (Has.tail (Has.tail (Has.tail (Has.tail Has.head)))))) rfl rfl ?_
        refine RW.call rfl ca15 rfl (fun w' hw' => hLi w' hw'.ext) ?_
        refine RW.move rfl rfl ?_
        refine RW.extract rfl rfl rfl ?_
        refine RW.extract rfl rfl rfl ?_
        refine RW.assign rfl rfl ?_
        refine RW.assign rfl rfl ?_
        refine RW.nil (EX.seq (CW.seq (CW.seq (CW.region ?_))))
        refine RW.move rfl rfl ?_
        refine RW.neqI rfl rfl rfl ?_
        refine RW.nil (EX.seq ?_)
        -- mq: cond
        refine CW.condF rfl (rfl) ?_
        refine CW.skip (EX.seq (CW.seq (CW.region ?_)))
        refine RW.move rfl rfl ?_
        refine RW.callI (v := .tuple #[.int .i64 ((lineF x).length : Int), .nilIface]) (H' := BldH w g4 (flatS (L.take i) ++ lineF x)) rfl caWS rfl (fun w' hw' => writeString_c w g4 _ _ w' (hB.ext hw'.ext) (by omega)) ?_
        refine RW.nil (EX.seq ?_)
        -- mq: region
        refine CW.region ?_
        refine RW.callI (v := .nilIface) (H' := BldH w g4 (flatS (L.take (i + 1)))) rfl caWB rfl (fun w' hw' => by rw [hfs, ← List.append_assoc]; exact writeByte_c w g4 _ 10 w' hw' (by rw [List.length_append]; omega)) ?_
        refine RW.nil (EX.bkN (EX.seq (CW.region ?_)))
        refine RW.add rfl rfl rfl (wrap64 (by omega) (by omega)) ?_
        refine RW.move rfl rfl ?_
        refine RW.nil ?_
        -- mq: loopend
        refine EX.lpN (i + 1) ⟨by omega, fun y hy => ?_, ?_⟩ (by omega) (by repeat (first | exact Sub.nil | refine Sub.cons (by rfl) ?_)) (fun w' hw' => hw')
        · rw [List.take_add_one, hx, Option.toList_some] at hy
          rcases List.mem_append.1 hy with hy | hy
          · exact hall y hy
          · rw [List.mem_singleton.1 hy]; exact hok
        · rw [hfs, List.length_append, List.length_append]; simp only [List.length_cons, List.length_nil]; omega
      · skip
        rw [lineR, if_neg hok] at hLi
        refine CW.region ?_
        refine RW.loadBA ag26 rfl rfl (by first | exact Has.head | exact Has.tail Has.head | exact Has.tail (Has.tail Has.head) | exact Has.tail (Has.tail (Has.tail Has.head)) | exact Has.tail (Has.tail (Has.tail (Has.tail Has.head))) | exact Has.tail (Has.tail (Has.tail (Has.tail (Has.tail Has.head)))) | exact Has.tail (Has.tail (Has.tail (Has.tail (Has.tail (Has.tail Has.head)))))) rfl rfl ?_
        refine RW.call rfl ca15 rfl (fun w' hw' => hLi w' hw'.ext) ?_
        refine RW.move rfl rfl ?_
        refine RW.extract rfl rfl rfl ?_
        refine RW.extract rfl rfl rfl ?_
        refine RW.assign rfl rfl ?_
        refine RW.assign rfl rfl ?_
        refine RW.nil (EX.seq (CW.seq (CW.seq (CW.region ?_))))
        refine RW.move rfl rfl ?_
        refine RW.neqI rfl rfl rfl ?_
        refine RW.nil (EX.seq ?_)
        -- mq: cond
        refine CW.condT rfl (rfl) ?_
        refine CW.seq (CW.region ?_)
        refine RW.move rfl rfl ?_
        refine RW.assign rfl rfl ?_
        refine RW.assign rfl rfl ?_
        refine RW.nil (EX.seq (CW.ret (EX.seqR (EX.bkR (EX.seqR (EX.lpR (EX.bkR (EX.seqR ?_))))))))
        refine EX.fin2 Tryd.results22 rfl rfl (fun wz hw => ?_)
        -- mq: done
        exact ⟨by rw [writeV_no (allOk_not hxm hok)], hB.1.trans0 hw.ext⟩
    · skip
      have htk : L.take i = L := List.take_of_length_le (by omega)
      rw [htk] at hall hB
      refine CW.exit (EX.seqE (EX.lpE (EX.bkE (EX.seq (CW.seq (CW.region ?_))))))
      -- mq: op 0: ('Op.call', ('Call.mk', ('Callee.value', ('Operand.func', '50')), ('arr', ('Operand.tmp', '4')), ('arr', '79'))) -> slot 27 ("dump.go:178")
      refine RW.callI (v := .string (bs (flatS L))) (H' := fun w' => Ext [] w w') rfl caBS rfl (fun w' hw' => bldString_c w g4 _ w' (hB.ext hw'.ext)) ?_
      refine RW.assign rfl rfl ?_
      refine RW.assign rfl rfl ?_
      refine RW.nil (EX.seq (CW.ret ?_))
      refine EX.fin2 Tryd.results22 rfl rfl (fun wz hw => ?_)
      -- mq: done
      exact ⟨by rw [writeV_ok (allOk_of hall)], hw⟩
theorem greatD_le {L : List BlkV} (h : greatD L = false) : L.length ≤ 60 := by
  unfold greatD at h
  have := of_decide_eq_false (Bool.or_eq_false_iff.1 h).2
  omega
theorem dwrites_c (w : World) (hg : GD w) (F : Nat → Prop) (A : Option Addr) (n c : Nat) (L : List BlkV) (hr : Rd EBlk w F A n c L) (hd : ∀ x ∈ L, x.Wf) :
    Calls Tryd.prog 8 [.slice A n c].toArray w (fun e w' => e = .returned (.bool true) ∧ Ext [] w w') := by
  have hln := hr.len
  refine calls (n := 74) Tryd.func8 rfl Tryd.ntmps8 rfl ?_
  refine CW.sub (H' := SH w [] []) ?_ (Sub.refl _) (fun x hx => SH.start' _ _ hx)
  refine CW.seq (CW.region ?_)
  refine RW.assign rfl rfl ?_
  refine RW.nil (EX.seq (CW.seq (CW.seq ?_)))
  -- mq: region
  refine CW.region ?_
  refine RW.move rfl rfl ?_
  refine RW.call rfl ca9 rfl (fun w' hw' => great_c w' F A n c L (hr.ext hw'.ext (by simp))) ?_
  refine RW.move rfl rfl ?_
  -- mq: guard slot 12
  refine RW.casesB 12 rfl (fun hG => ?_) (fun hG => ?_)
  · skip
    refine RW.guardF rfl rfl rfl hG ?_
    refine RW.guardF rfl rfl rfl hG ?_
    refine RW.pickB rfl rfl hG rfl ?_
    refine RW.nil (EX.seq ?_)
    -- mq: cond
    refine CW.condT rfl (rfl) ?_
    refine CW.seq (CW.region ?_)
    refine RW.call rfl ca10 rfl (fun w' hw' => awake_c w' (hg.ext hw'.ext).l) ?_
    refine RW.assign rfl rfl ?_
    refine RW.nil (EX.seq (CW.ret (EX.seqR ?_)))
    refine EX.fin1 Tryd.results8 rfl (fun wz hw => ?_)
    -- mq: done
    exact ⟨rfl, hw.ext⟩
  · skip
    have hl2 := greatD_le hG
    refine RW.guardT rfl rfl hG ?_
    refine RW.call rfl ca10 rfl (fun w' hw' => awake_c w' (hg.ext hw'.ext).l) ?_
    refine RW.guardT rfl rfl hG ?_
    refine RW.not_ rfl rfl ?_
    refine RW.pickC rfl rfl hG rfl ?_
    refine RW.nil (EX.seq ?_)
    -- mq: cond
    refine CW.condF rfl (rfl) ?_
    refine CW.skip (EX.seq (CW.seq (CW.region ?_)))
    refine RW.move rfl rfl ?_
    refine RW.call rfl ca22 rfl (fun w' hw' => Write_c w' (hg.ext hw'.ext) F A n c L (hr.ext hw'.ext (by simp)) (by omega) hd) ?_
    refine RW.move rfl rfl ?_
    refine RW.extract rfl rfl rfl ?_
    refine RW.extract rfl rfl rfl ?_
    refine RW.assign rfl rfl ?_
    refine RW.assign rfl rfl ?_
    refine RW.nil (EX.seq (CW.seq (CW.region ?_)))
    refine RW.assign rfl rfl ?_
    refine RW.nil (EX.seq (CW.seq (CW.seq (CW.region ?_))))
    refine RW.assign rfl rfl ?_
    refine RW.nil (EX.seq (CW.block ?_))
    -- mq: loop
    refine CW.loop (ι := Nat) (fun i => [(0, .slice A n c), (3, .string (bs (if allOk L = true then flatS L else []))), (4, .int .i64 (if allOk L = true then 0 else 1)), (5, .string (bs (flatS (L.take i)))), (6, .int .i64 (i : Int))]) (fun _ => SH w [] []) (fun i => i ≤ n ∧ (∀ x ∈ L.take i, toldB x = true) ∧ (flatS (L.take i)).length ≤ 20000 * i) (fun i => n - i) ?_ ?_
    · refine fun w' hw' => ⟨0, ⟨Nat.zero_le _, by simp, Nat.le_refl _⟩, ?_, hw'⟩
      rw [show L.take 0 = [] from rfl, flatS_nil]
      exact (by repeat (first | exact Sub.nil | refine Sub.cons (by rfl) ?_))
    · rintro i ⟨hi, hall, hfl⟩
      refine CW.seq (CW.seq (CW.region ?_))
      refine RW.move rfl rfl ?_
      refine RW.move rfl rfl ?_
      refine RW.lenSl Tryd.underlying28 rfl rfl ?_
      refine RW.lss rfl rfl rfl ?_
      refine RW.nil (EX.seq ?_)
      -- mq: cond
      first | refine CW.condD rfl (fun hlt => ?_) (fun hlt => ?_) | refine CW.cond rfl (fun hlt => ?_) (fun hlt => ?_)
      · skip
        obtain ⟨x, hx⟩ : ∃ x, L[i]? = some x := ⟨L[i]'(by omega), List.getElem?_eq_getElem _⟩
        have hxm := List.mem_of_getElem? hx
        have hwf := hd x hxm
        obtain ⟨ad, hA, _, hcl⟩ := hr.at_ hx
        refine CW.skip (EX.seq (CW.seq (CW.block (CW.seq (CW.seq ?_)))))
        -- mq: region
        by_cases hok : toldB x = true
        · skip
          have hle := lineF_len hwf hok
          have hfs := flatS_succ hx
          refine CW.region ?_
          refine RW.move rfl rfl ?_
          refine RW.move rfl rfl ?_
          refine RW.ixAddr (q := i) sl28 rfl rfl rfl (by first | rfl | assumption) (by omega) (by omega) ?_
          refine RW.loadA ag26 rfl rfl (rfl) (fun w' hw' j u hj => hw'.base_cell (hcl j u hj) (by simp)) ?_
          refine RW.call (v := .bool true) rfl ca16 rfl (fun w' _ => by have h := refTold_c w' x; rw [hok] at h; exact h) ?_
          refine RW.not_ rfl rfl ?_
          refine RW.nil (EX.seq ?_)
          -- mq: cond
          refine CW.condF rfl (rfl) ?_
          refine CW.skip (EX.seq (CW.region ?_))
          refine RW.move rfl rfl ?_
          refine RW.move rfl rfl ?_
          refine RW.move rfl rfl ?_
          refine RW.ixAddr (q := i) sl28 rfl rfl rfl (by first | rfl | assumption) (by omega) (by omega) ?_
          refine RW.loadA ag26 rfl rfl (rfl) (fun w' hw' j u hj => hw'.base_cell (hcl j u hj) (by simp)) ?_
          refine RW.call rfl ca18 rfl (fun w' _ => refLine31_c w' x hwf hok) ?_
          refine RW.catS rfl rfl rfl (by first | omega | (simp only [List.length_append, List.length_cons, List.length_nil]; omega)) ?_
          refine RW.catS rfl rfl rfl (by first | omega | (simp only [List.length_append, List.length_cons, List.length_nil]; omega)) ?_
          refine RW.assign rfl rfl ?_
          refine RW.nil (EX.bkN (EX.seq (CW.region ?_)))
          refine RW.move rfl rfl ?_
          refine RW.add rfl rfl rfl (wrap64 (by omega) (by omega)) ?_
          refine RW.assign rfl rfl ?_
          refine RW.nil ?_
          -- mq: loopend
          refine EX.lpN (i + 1) ⟨by omega, fun y hy => ?_, ?_⟩ (by omega) (by rw [hfs, ← List.append_assoc]; exact (by repeat (first | exact Sub.nil | refine Sub.cons (by rfl) ?_))) (fun w' hw' => hw')
          · rw [List.take_add_one, hx, Option.toList_some] at hy
            rcases List.mem_append.1 hy with hy | hy
            · exact hall y hy
            · rw [List.mem_singleton.1 hy]; exact hok
          · rw [hfs, List.length_append, List.length_append]; simp only [List.length_cons, List.length_nil]; omega
        · skip
          have hno := allOk_not hxm hok
          rw [show (if allOk L = true then flatS L else []) = [] from if_neg hno, show (if allOk L = true then (0 : Int) else 1) = 1 from if_neg hno]
          refine CW.region ?_
          refine RW.move rfl rfl ?_
          refine RW.move rfl rfl ?_
          refine RW.ixAddr (q := i) sl28 rfl rfl rfl (by first | rfl | assumption) (by omega) (by omega) ?_
          refine RW.loadA ag26 rfl rfl (rfl) (fun w' hw' j u hj => hw'.base_cell (hcl j u hj) (by simp)) ?_
          refine RW.call (v := .bool false) rfl ca16 rfl (fun w' _ => by have h := refTold_c w' x; rw [show toldB x = false by simpa using hok] at h; exact h) ?_
          refine RW.not_ rfl rfl ?_
          refine RW.nil (EX.seq ?_)
          -- mq: cond
          refine CW.condT rfl (rfl) ?_
          refine CW.seq (CW.region ?_)
          refine RW.move rfl rfl ?_
          refine RW.eqlS rfl rfl rfl ?_
          refine RW.move rfl rfl ?_
          refine RW.guardT rfl rfl (decide_eq_true rfl) ?_
          refine RW.move rfl rfl ?_
          refine RW.guardT rfl rfl (decide_eq_true rfl) ?_
          refine RW.eqlI rfl rfl rfl ?_
          refine RW.pickB rfl rfl (decide_eq_true rfl) rfl ?_
          refine RW.assign rfl rfl ?_
          refine RW.nil (EX.seq (CW.ret (EX.seqR (EX.bkR (EX.seqR (EX.lpR (EX.bkR (EX.seqR ?_))))))))
          refine EX.fin1 Tryd.results8 rfl (fun wz hw => ?_)
          -- mq: done
          exact ⟨rfl, hw.ext⟩
      · skip
        have htk : L.take i = L := List.take_of_length_le (by omega)
        rw [htk] at hall ⊢
        have hok := allOk_of hall
        have hfa : ∀ x ∈ L, x.Wf ∧ toldB x = true := fun x hx => ⟨hd x hx, hall x hx⟩
        have hfl2 := flatS_le L hfa
        have hrf := readF_flat L 1 hfa
        rw [show (if allOk L = true then flatS L else []) = flatS L from if_pos hok, show (if allOk L = true then (0 : Int) else 1) = 0 from if_pos hok]
        refine CW.exit (EX.seqE (EX.lpE (EX.bkE (EX.seq (CW.seq ?_)))))
        -- mq: region
        refine CW.region ?_
        refine RW.move rfl rfl ?_
        -- mq: at
        refine RW.callA (R := fun w0 => IsRead (L, 0, 0) w0) rfl ca20 rfl (fun w' hw' => by have h := Read_c w' (hg.ext hw'.ext) (flatS L) (by omega); rw [hrf] at h; exact h) (fun w1 w2 v hw1 he12 hw2 hlt2 hv => ?_)
        obtain ⟨A2, m2, c2, rfl, hrd⟩ := hv
        have hx12 : Ext [] w w2 := hw1.ext.trans0 he12
        have hcv := hw1.cov
        have hr2 := hr.ext hx12 (by simp)
        refine RW.move rfl rfl ?_
        refine RW.extract rfl rfl rfl ?_
        refine RW.extract rfl rfl rfl ?_
        refine RW.extract rfl rfl rfl ?_
        refine RW.assign rfl rfl ?_
        refine RW.assign rfl rfl ?_
        refine RW.assign rfl rfl ?_
        refine RW.nil (EX.seq (CW.seq ?_))
        -- mq: region
        refine CW.region ?_
        refine RW.move rfl rfl ?_
        refine RW.eqlI rfl rfl rfl ?_
        refine RW.move rfl rfl ?_
        refine RW.guardT rfl rfl (decide_eq_true rfl) ?_
        refine RW.move rfl rfl ?_
        refine RW.guardT rfl rfl (decide_eq_true rfl) ?_
        refine RW.move rfl rfl ?_
        refine RW.guardT rfl rfl (decide_eq_true rfl) ?_
        refine RW.eqlS rfl rfl rfl ?_
        refine RW.pickB rfl rfl (decide_eq_true rfl) rfl ?_
        refine RW.move rfl rfl ?_
        refine RW.guardT rfl rfl (decide_eq_true rfl) ?_
        refine RW.move rfl rfl ?_
        refine RW.guardT rfl rfl (decide_eq_true rfl) ?_
        refine RW.eqlI rfl rfl rfl ?_
        refine RW.pickB rfl rfl (decide_eq_true rfl) rfl ?_
        refine RW.move rfl rfl ?_
        refine RW.guardT rfl rfl (decide_eq_true rfl) ?_
        refine RW.move rfl rfl ?_
        refine RW.guardT rfl rfl (decide_eq_true rfl) ?_
        refine RW.eqlI rfl rfl rfl ?_
        refine RW.pickB rfl rfl (decide_eq_true rfl) rfl ?_
        refine RW.move rfl rfl ?_
        refine RW.guardT rfl rfl (decide_eq_true rfl) ?_
        refine RW.move rfl rfl ?_
        refine RW.guardT rfl rfl (decide_eq_true rfl) ?_
        refine RW.move rfl rfl ?_
        refine RW.guardT rfl rfl (decide_eq_true rfl) ?_
        refine RW.call (v := .bool true) rfl ca21 rfl (fun w' hw' => by have h := Same_c w' _ _ A2 A m2 c2 n c L L (hrd.ext hw'.ext (by intro k hk hk2; cases hk2)) (hr2.ext hw'.ext (by intro k hk hk2; cases hk2)); rw [decide_eq_true rfl] at h; exact h) ?_
        refine RW.pickB rfl rfl (decide_eq_true rfl) rfl ?_
        refine RW.assign rfl rfl ?_
        refine RW.nil (EX.seq (CW.ret ?_))
        refine EX.fin1 Tryd.results8 rfl (fun wz hw => ?_)
        -- mq: done
        exact ⟨rfl, (hw.unbase hx12 hcv).ext⟩
section
variable {H : Type} {enc : TypeId × Value → H} {w : World} {base : Nat} {spare : Nat → Bool} {held : Bool}
theorem shpBlk : shp Tryd.prog 5 26 = some blkShape := by kernel_rfl
theorem openBlks {fuel : Nat} {A : Option Addr} {n c : Nat} {x : DataW H × List MemPlace} (h : DataW.trod enc Tryd.prog w base spare held fuel 28 [.slice A n c] = some x) (hw : Wt Tryd.prog 28 x.1) :
    ∃ l, Rd EBlk w (fun k => k < w.heap.size) A n c l ∧ ∀ a ∈ l, a.Wf := by
  obtain ⟨l, h1, h3, _⟩ := open_rd (E := EBlk) (G := BlkV.Wf) 5 _ Tryd.underlying28 (by kernel_rfl) (by decide) shpBlk (fun cs hc => blk_of hc) (of_decide_eq_true (by kernel_rfl)) h hw
  exact ⟨l, h1, h3⟩
end
end Go.Proofs.YtnkdabjahmjdoaaDoor.Mq
