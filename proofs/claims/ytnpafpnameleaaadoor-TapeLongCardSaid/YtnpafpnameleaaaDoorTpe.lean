/- tape: Great, Write, TapeWrites -/
import Derived.Test.YtnpafpnameleaaaDoorTpd
import Derived.Test.YtnpafpnameleaaaDoorBlds
namespace Go.Proofs.YtnpafpnameleaaaDoor.Mq
open Go Go.RowKit Go.Proofs

section
variable {P : Program} {n : Nat} {c : Code} {Q : Post} {l : Fr} {H : World → Prop}
theorem CW.fix (h : ∀ w1, H w1 → CW P n c Q l (SH w1 [] [])) : CW P n c Q l H := fun w hw => h w hw w (SH.start w)
end
def sumD (L : List StV) : Nat := (L.map (·.d.length)).sum
theorem sumD_succ {L : List StV} {i : Nat} {x : StV} (h : L[i]? = some x) : sumD (L.take (i + 1)) = sumD (L.take i) + x.d.length := by
  rw [List.take_add_one, h]; simp [sumD]
theorem sumD_le (L : List StV) (i : Nat) : sumD (L.take i) ≤ sumD L := by
  conv => rhs; rw [← List.take_append_drop i L]
  unfold sumD
  rw [List.map_append, List.sum_append]; omega
theorem sumD_mem {L : List StV} {x : StV} (h : x ∈ L) : x.d.length ≤ sumD L := by
  induction L with
  | nil => cases h
  | cons y r ih =>
    have e : sumD (y :: r) = y.d.length + sumD r := by simp [sumD]
    rcases List.mem_cons.1 h with rfl | h
    · omega
    · have := ih h; omega
def greatT (L : List StV) : Bool := decide (2000 < L.length + sumD L)
def StV.Wfd (x : StV) : Prop := x.Wf ∧ x.d.length ≤ reachBytes
theorem Great_c (w : World) (F : Nat → Prop) (A : Option Addr) (n c : Nat) (L : List StV) (hr : Rd ESt w F A n c L) (hn : n ≤ reachBytes) (hd : ∀ x ∈ L, x.Wfd) :
    Calls Tryd.prog 16 [.slice A n c].toArray w (fun e w' => e = .returned (.bool (greatT L)) ∧ Ext [] w w') := by
  have hln := hr.len
  have hrb : reachBytes = 140737488351232 := rfl
  rw [hrb] at hn
  refine calls (n := 27) Tryd.func16 rfl Tryd.ntmps16 rfl ?_
  refine CW.sub (H' := SH w [] []) ?_ (Sub.refl _) (fun x hx => SH.start' _ _ hx)
  refine CW.seq (CW.region ?_)
  refine RW.assign rfl rfl ?_
  refine RW.nil (EX.seq (CW.seq (CW.region ?_)))
  refine RW.move rfl rfl ?_
  refine RW.lenSl Tryd.underlying36 rfl rfl ?_
  refine RW.assign rfl rfl ?_
  refine RW.nil (EX.seq (CW.seq (CW.seq (CW.region ?_))))
  refine RW.assign rfl rfl ?_
  refine RW.nil (EX.seq (CW.block ?_))
  -- mq: loop
  refine CW.loop (ι := Nat) (fun i => [(0, .slice A n c), (3, .int .i64 ((n + sumD (L.take i) : Nat) : Int)), (4, .int .i64 (i : Int))]) (fun _ => SH w [] []) (fun i => i ≤ n ∧ n + sumD (L.take i) ≤ 281474976704464) (fun i => n - i) ?_ ?_
  · have h0 : n + sumD (L.take 0) ≤ 281474976704464 := by rw [show sumD (L.take 0) = 0 by simp [sumD]]; omega
    refine fun w' hw' => ⟨0, ⟨Nat.zero_le _, h0⟩, ?_, hw'⟩
    rw [show n + sumD (L.take 0) = n by simp [sumD]]
    exact (by repeat (first | exact Sub.nil | refine Sub.cons (by rfl) ?_))
  · rintro i ⟨hi, hb⟩
    have hsl := sumD_le L i
    refine CW.seq (CW.seq (CW.region ?_))
    refine RW.move rfl rfl ?_
    refine RW.move rfl rfl ?_
    refine RW.lenSl Tryd.underlying36 rfl rfl ?_
    refine RW.lss rfl rfl rfl ?_
    refine RW.move rfl rfl ?_
    -- mq: guard slot 11
    refine RW.casesB 11 rfl (fun h1 => ?_) (fun h1 => ?_)
    · skip
      have h1p := of_decide_eq_true h1
      refine RW.guardT rfl rfl h1 ?_
      refine RW.move rfl rfl ?_
      refine RW.guardT rfl rfl h1 ?_
      refine RW.leq rfl rfl rfl ?_
      refine RW.pickB rfl rfl h1 rfl ?_
      refine RW.nil (EX.seq ?_)
      -- mq: cond
      first | refine CW.condD rfl (fun h2 => ?_) (fun h2 => ?_) | refine CW.cond rfl (fun h2 => ?_) (fun h2 => ?_)
      · skip
        obtain ⟨x, hx⟩ : ∃ x, L[i]? = some x := ⟨L[i]'(by omega), List.getElem?_eq_getElem _⟩
        have hxd := (hd x (List.mem_of_getElem? hx)).2
        rw [hrb] at hxd
        have hsu := sumD_succ hx
        obtain ⟨ad, hA, _, hcl⟩ := hr.at_ hx
        refine CW.skip (EX.seq (CW.seq (CW.block (CW.region ?_))))
        refine RW.move rfl rfl ?_
        refine RW.move rfl rfl ?_
        refine RW.move rfl rfl ?_
        refine RW.ixAddr (q := i) sl36 rfl rfl rfl (by first | rfl | assumption) (by omega) (by omega) ?_
        refine RW.fieldP fl23x3 rfl rfl ?_
        refine RW.load1 sc9 rfl rfl (fun w' hw' => hw'.base_cell (hcl 3 _ rfl) (by simp)) ?_
        refine RW.lenS Tryd.underlying9 rfl rfl ?_
        refine RW.add (r := ((n + sumD (L.take (i + 1)) : Nat) : Int)) rfl rfl rfl (by rw [wrap64 (by omega) (by omega)]; omega) ?_
        refine RW.assign rfl rfl ?_
        refine RW.nil (EX.bkN (EX.seq (CW.region ?_)))
        refine RW.move rfl rfl ?_
        refine RW.add rfl rfl rfl (wrap64 (by omega) (by omega)) ?_
        refine RW.assign rfl rfl ?_
        refine RW.nil ?_
        -- mq: loopend
        exact EX.lpN (i + 1) ⟨by omega, by omega⟩ (by omega) (by repeat (first | exact Sub.nil | refine Sub.cons (by rfl) ?_)) (fun w' hw' => hw')
      · skip
        refine CW.exit (EX.seqE (EX.lpE (EX.bkE (EX.seq (CW.seq (CW.region ?_))))))
        refine RW.move rfl rfl ?_
        refine RW.gtr rfl rfl rfl ?_
        refine RW.assign rfl rfl ?_
        refine RW.nil (EX.seq (CW.ret ?_))
        refine EX.fin1 Tryd.results16 rfl (fun wz hw => ?_)
        -- mq: done
        exact ⟨by rw [greatT]; congr 2; rw [decide_eq_decide]; omega, hw.ext⟩
    · skip
      have h1p := of_decide_eq_false h1
      have htk : L.take i = L := List.take_of_length_le (by omega)
      rw [htk]
      refine RW.guardF rfl rfl rfl h1 ?_
      refine RW.guardF rfl rfl rfl h1 ?_
      refine RW.pickC rfl rfl h1 rfl ?_
      refine RW.nil (EX.seq ?_)
      -- mq: cond
      refine CW.condF rfl (rfl) ?_
      refine CW.exit (EX.seqE (EX.lpE (EX.bkE (EX.seq (CW.seq (CW.region ?_))))))
      refine RW.move rfl rfl ?_
      refine RW.gtr rfl rfl rfl ?_
      refine RW.assign rfl rfl ?_
      refine RW.nil (EX.seq (CW.ret ?_))
      refine EX.fin1 Tryd.results16 rfl (fun wz hw => ?_)
      -- mq: done
      exact ⟨by rw [greatT]; congr 2; rw [decide_eq_decide]; omega, hw.ext⟩
def flatS (L : List StV) : List UInt8 := L.flatMap (fun x => lineS x ++ [10])
def allOk (L : List StV) : Bool := L.all okSt
theorem flatS_succ {L : List StV} {i : Nat} {x : StV} (h : L[i]? = some x) : flatS (L.take (i + 1)) = flatS (L.take i) ++ (lineS x ++ [10]) := by
  rw [List.take_add_one, h]; simp [flatS]
theorem lineS_le {x : StV} (h : okSt x = true) (ha : In64 x.a) (hb : In64 x.b) : (lineS x).length ≤ 8 * x.d.length + 92 := by
  obtain ⟨kk, a, b, d⟩ := x
  obtain ⟨k, rfl⟩ : ∃ k : Nat, kk = (k : Int) := ⟨kk.toNat, by have := (okSt_iff.1 h).1; dsimp only at this; omega⟩
  dsimp only at ha hb ⊢
  obtain ⟨h1, h2, h3, h4, h5⟩ := okSt4.1 h
  have hwm := wI_mem (k := k) (by omega) ha hb
  have hwl := wI_len k a b 2
  have hhx : (hexT d).length = 2 * d.length + 1 := by unfold hexT; rw [List.length_cons, hexP_len]
  unfold lineS
  cases hh : hasK k with
  | true =>
    rw [wI_t k a b d hh]
    refine Nat.le_trans (joinLe (B := 2 * d.length + 22) _ (fun x hx => ?_)) ?_
    · rcases List.mem_append.1 hx with hx | hx
      · have := hwm x hx; omega
      · rw [List.mem_singleton.1 hx]; omega
    · rw [List.length_append]
      refine Nat.le_trans (Nat.mul_le_mul_right _ (show (wI k a b 2).length + [hexT d].length ≤ 4 by simp; omega)) ?_
      omega
  | false =>
    rw [wI_f k a b d hh]
    refine Nat.le_trans (joinLe (B := 21) _ hwm) ?_
    omega
theorem flatS_le : ∀ L : List StV, (∀ x ∈ L, okSt x = true ∧ In64 x.a ∧ In64 x.b) → (flatS L).length ≤ 8 * sumD L + 93 * L.length
  | [], _ => Nat.zero_le _
  | x :: r, h => by
    have ih := flatS_le r (fun y hy => h y (by simp [hy]))
    have hx := h x (by simp)
    have := lineS_le hx.1 hx.2.1 hx.2.2
    have e : flatS (x :: r) = lineS x ++ [10] ++ flatS r := by simp [flatS]
    have e2 : sumD (x :: r) = x.d.length + sumD r := by simp [sumD]
    rw [e, e2, List.length_append, List.length_append, List.length_cons]
    simp only [List.length_cons, List.length_nil]
    omega
theorem join_no {c : UInt8} (hc : c ≠ 32) : ∀ L : List (List UInt8), (∀ x ∈ L, c ∉ x) → c ∉ Lib.join L [32]
  | [], _ => by intro h; cases h
  | [x], h => by rw [Lib.join_one]; exact h x (by simp)
  | x :: y :: r, h => by
    have ih := join_no hc (y :: r) (fun z hz => h z (by simp [hz]))
    rw [joinTwo]
    intro hm
    rcases List.mem_append.1 hm with hm | hm
    · exact h x (by simp) hm
    · rcases List.mem_cons.1 hm with hm | hm
      · exact hc hm
      · exact ih hm
theorem wordsK_no10 : ∀ k, k < 7 → (10 : UInt8) ∉ wordsK.getD k [] := by decide
theorem lineS_no {x : StV} (h : okSt x = true) : (10 : UInt8) ∉ lineS x := by
  have hk := (okSt_iff.1 h).1
  refine join_no (by decide) _ fun y hw => ?_
  unfold wordsS at hw
  rcases List.mem_cons.1 hw with rfl | hw
  · exact wordsK_no10 _ (by omega)
  rcases List.mem_append.1 hw with hw | hw
  · split at hw
    · rw [List.mem_singleton.1 hw]; exact itoa_no (by decide)
    · cases hw
  rcases List.mem_append.1 hw with hw | hw
  · split at hw
    · rw [List.mem_singleton.1 hw]; exact itoa_no (by decide)
    · cases hw
  · split at hw
    · rw [List.mem_singleton.1 hw]; exact hexT_no (by decide)
    · cases hw
theorem readF_flat : ∀ (L : List StV) (n : Nat), (∀ x ∈ L, okSt x = true ∧ In64 x.a ∧ In64 x.b) → readF n (flatS L) = (L, 0, 0)
  | [], n, _ => readF_nil n
  | x :: r, n, h => by
    have hx := h x (by simp)
    have ih := readF_flat r (n + 1) (fun y hy => h y (by simp [hy]))
    have hno := lineS_no hx.1
    have e : flatS (x :: r) = lineS x ++ 10 :: flatS r := by simp [flatS]
    have h1 : (10 : UInt8) ∈ flatS (x :: r) := by rw [e]; simp
    have h2 : (flatS (x :: r)).takeWhile (· ≠ 10) = lineS x := by rw [e]; exact (cut_pre hno).1
    have h3 : ((flatS (x :: r)).dropWhile (· ≠ 10)).drop 1 = flatS r := by rw [e]; exact (cut_pre hno).2
    have hp := parse_line hx.1 hx.2.1 hx.2.2
    rw [readF, dif_neg (List.ne_nil_of_mem h1), if_pos h1, h2, h3, hp, ih]
    rfl
def writeV (L : List StV) : Value := .tuple #[.string (bs (if allOk L = true then flatS L else [])), .int .i64 (if allOk L = true then 0 else 1)]
theorem writeV_no {L : List StV} (h : ¬ allOk L = true) : writeV L = .tuple #[.string (bs []), .int .i64 1] := by rw [writeV, if_neg h, if_neg h]
theorem writeV_ok {L : List StV} (h : allOk L = true) : writeV L = .tuple #[.string (bs (flatS L)), .int .i64 0] := by rw [writeV, if_pos h, if_pos h]
theorem allOk_not {L : List StV} {x : StV} (hx : x ∈ L) (h : ¬ okSt x = true) : ¬ allOk L = true := fun e => h (List.all_eq_true.1 e x hx)
theorem allOk_of {L : List StV} (h : ∀ x ∈ L, okSt x = true) : allOk L = true := List.all_eq_true.2 h
theorem Write_c (w : World) (hg : GT w) (F : Nat → Prop) (A : Option Addr) (n c : Nat) (L : List StV) (hr : Rd ESt w F A n c L) (hn : n ≤ 2000) (hd : ∀ x ∈ L, x.Wfd) (hs : ∀ x ∈ L, x.d.length ≤ 2000) :
    Calls Tryd.prog 17 [.slice A n c].toArray w (fun e w' => e = .returned (writeV L) ∧ Ext [] w w') := by
  have hln := hr.len
  refine calls (n := 27) Tryd.func17 rfl Tryd.ntmps17 rfl ?_
  refine CW.sub (H' := SH w [] []) ?_ (Sub.refl _) (fun x hx => SH.start' _ _ hx)
  refine CW.seq (CW.region ?_)
  refine RW.assign rfl rfl ?_
  refine RW.assign rfl rfl ?_
  refine RW.nil (EX.seq (CW.seq (CW.region ?_)))
  refine RW.allocA ag68 rfl (fun g4 hg4 hf4 => ?_)
  refine RW.nil (EX.seq (CW.seq (CW.seq (CW.region ?_))))
  refine RW.move rfl rfl ?_
  refine RW.lenSl Tryd.underlying36 rfl rfl ?_
  refine RW.move rfl rfl ?_
  refine RW.nil (EX.seq (CW.block ?_))
  -- mq: loop
  refine CW.loop (ι := Nat) (fun i => [(4, .pointer (some ⟨g4, 0, none⟩)), (9, .slice A n c), (10, .int .i64 (n : Int)), (11, .int .i64 (i : Int))]) (fun i => BldH w g4 (flatS (L.take i))) (fun i => i ≤ n ∧ (∀ x ∈ L.take i, okSt x = true) ∧ (flatS (L.take i)).length ≤ 20000 * i) (fun i => n - i) ?_ ?_
  · exact fun w' hw' => ⟨0, ⟨Nat.zero_le _, by simp, Nat.le_refl _⟩, (by repeat (first | exact Sub.nil | refine Sub.cons (by rfl) ?_)), BldH.start hg4 hw'⟩
  · rintro i ⟨hi, hall, hfl⟩
    refine CW.fix (fun w1 hB => ?_)
    have hr1 := hr.ext hB.1 (by simp)
    refine CW.seq (CW.region ?_)
    refine RW.lss rfl rfl rfl ?_
    refine RW.nil (EX.seq (CW.seq ?_))
    -- mq: cond
    first | refine CW.condD rfl (fun hlt => ?_) (fun hlt => ?_) | refine CW.cond rfl (fun hlt => ?_) (fun hlt => ?_)
    · skip
      obtain ⟨x, hx⟩ : ∃ x, L[i]? = some x := ⟨L[i]'(by omega), List.getElem?_eq_getElem _⟩
      have hxm := List.mem_of_getElem? hx
      have hwf := (hd x hxm).1
      have hxd := hs x hxm
      obtain ⟨ad, hA, _, hcl⟩ := hr1.at_ hx
      have hLi := fun w' (hw' : Ext [] w1 w') => Line_c4 w' (hg.ext (hB.1.trans0 hw')).l x.k x.a x.b x.d hwf.2.1 hwf.2.2 (by omega)
      refine CW.skip (EX.seq (CW.seq (CW.block (CW.seq (CW.region ?_)))))
      refine RW.ixAddr (q := i) sl36 rfl rfl rfl (by first | rfl | assumption) (by omega) (by omega) ?_
      refine RW.loadA ag23 rfl rfl (rfl) (fun w' hw' j u hj => hw'.base_cell (hcl j u hj) (by simp)) ?_
      refine RW.allocA ag23 rfl (fun g6 hg6 hf6 => ?_)
      refine RW.storeA ag23 rfl rfl (by first | exact Upd.head | exact Upd.tail Upd.head | exact Upd.tail (Upd.tail Upd.head) | exact Upd.tail (Upd.tail (Upd.tail Upd.head)) | exact Upd.tail (Upd.tail (Upd.tail (Upd.tail Upd.head))) | exact Upd.tail (Upd.tail (Upd.tail (Upd.tail (Upd.tail Upd.head)))) | exact Upd.tail (Upd.tail (Upd.tail (Upd.tail (Upd.tail (Upd.tail Upd.head)))))) (by first | rfl | exact Enc.len _ _) (by repeat (first | exact Ones.nil | exact Enc.ones _ _ | refine Ones.cons rfl ?_)) (by first | exact Nat.le_of_ble_eq_true rfl | (simp only [Enc.len]; decide)) ?_
      refine RW.nil (EX.seq (CW.seq ?_))
      -- mq: region
      by_cases hok : okSt x = true
      · skip
        have hle := lineS_le hok hwf.2.1 hwf.2.2
        have hfs := flatS_succ hx
        rw [show lineV ⟨x.k, x.a, x.b, x.d⟩ = _ from lineV_ok (x := x) hok] at hLi
        refine CW.region ?_
        refine RW.loadBA ag23 rfl rfl (by first | exact Has.head | exact Has.tail Has.head | exact Has.tail (Has.tail Has.head) | exact Has.tail (Has.tail (Has.tail Has.head)) | exact Has.tail (Has.tail (Has.tail (Has.tail Has.head))) | exact Has.tail (Has.tail (Has.tail (Has.tail (Has.tail Has.head)))) | exact Has.tail (Has.tail (Has.tail (Has.tail (Has.tail (Has.tail Has.head)))))) rfl rfl ?_
        refine RW.call rfl ca9 rfl (fun w' hw' => hLi w' hw'.ext) ?_
        refine RW.move rfl rfl ?_
        refine RW.extract rfl rfl rfl ?_
        refine RW.extract rfl rfl rfl ?_
        refine RW.assign rfl rfl ?_
        refine RW.assign rfl rfl ?_
        refine RW.nil (EX.seq (CW.seq (CW.seq (CW.region ?_))))
        refine RW.move rfl rfl ?_
        refine RW.neqI rfl rfl rfl ?_
        refine RW.nil (EX.seq ?_)
        -- mq: cond
        refine CW.condF rfl (rfl) ?_
        refine CW.skip (EX.seq (CW.region ?_))
        refine RW.move rfl rfl ?_
        refine RW.catS rfl rfl rfl (by first | omega | (simp only [List.length_append, List.length_cons, List.length_nil]; omega)) ?_
        refine RW.callI (v := .tuple #[.int .i64 ((lineS x ++ [10]).length : Int), .nilIface]) (H' := BldH w g4 (flatS (L.take (i + 1)))) rfl caWS rfl (fun w' hw' => by rw [hfs]; exact writeString_c w g4 _ _ w' (hB.ext hw'.ext) (by rw [List.length_append]; simp only [List.length_cons, List.length_nil]; omega)) ?_
        refine RW.nil (EX.bkN (EX.seq (CW.region ?_)))
        refine RW.add rfl rfl rfl (wrap64 (by omega) (by omega)) ?_
        refine RW.move rfl rfl ?_
        refine RW.nil ?_
        -- mq: loopend
        refine EX.lpN (i + 1) ⟨by omega, fun y hy => ?_, ?_⟩ (by omega) (by repeat (first | exact Sub.nil | refine Sub.cons (by rfl) ?_)) (fun w' hw' => hw')
        · rw [List.take_add_one, hx, Option.toList_some] at hy
          rcases List.mem_append.1 hy with hy | hy
          · exact hall y hy
          · rw [List.mem_singleton.1 hy]; exact hok
        · rw [hfs, List.length_append, List.length_append]; simp only [List.length_cons, List.length_nil]; omega
      · skip
        rw [show lineV ⟨x.k, x.a, x.b, x.d⟩ = _ from lineV_no (x := x) hok] at hLi
        refine CW.region ?_
        refine RW.loadBA ag23 rfl rfl (by first | exact Has.head | exact Has.tail Has.head | exact Has.tail (Has.tail Has.head) | exact Has.tail (Has.tail (Has.tail Has.head)) | exact Has.tail (Has.tail (Has.tail (Has.tail Has.head))) | exact Has.tail (Has.tail (Has.tail (Has.tail (Has.tail Has.head)))) | exact Has.tail (Has.tail (Has.tail (Has.tail (Has.tail (Has.tail Has.head)))))) rfl rfl ?_
        refine RW.call rfl ca9 rfl (fun w' hw' => hLi w' hw'.ext) ?_
        refine RW.move rfl rfl ?_
        refine RW.extract rfl rfl rfl ?_
        refine RW.extract rfl rfl rfl ?_
        refine RW.assign rfl rfl ?_
        refine RW.assign rfl rfl ?_
        refine RW.nil (EX.seq (CW.seq (CW.seq (CW.region ?_))))
        refine RW.move rfl rfl ?_
        refine RW.neqI rfl rfl rfl ?_
        refine RW.nil (EX.seq ?_)
        -- mq: cond
        refine CW.condT rfl (rfl) ?_
        refine CW.seq (CW.region ?_)
        refine RW.assign rfl rfl ?_
        refine RW.assign rfl rfl ?_
        refine RW.nil (EX.seq (CW.ret (EX.seqR (EX.bkR (EX.seqR (EX.lpR (EX.bkR (EX.seqR ?_))))))))
        refine EX.fin2 Tryd.results17 rfl rfl (fun wz hw => ?_)
        -- mq: done
        exact ⟨by rw [writeV_no (allOk_not hxm hok)], hB.1.trans0 hw.ext⟩
    · skip
      have htk : L.take i = L := List.take_of_length_le (by omega)
      rw [htk] at hall hB
      refine CW.exit (EX.seqE (EX.lpE (EX.bkE (EX.seq (CW.seq (CW.region ?_))))))
      -- mq: op 0: ('Op.call', ('Call.mk', ('Callee.value', ('Operand.func', '33')), ('arr', ('Operand.tmp', '4')), ('arr', '68'))) -> slot 26 ("tape.go:153")
      refine RW.callI (v := .string (bs (flatS L))) (H' := fun w' => Ext [] w w') rfl caBS rfl (fun w' hw' => bldString_c w g4 _ w' (hB.ext hw'.ext)) ?_
      refine RW.assign rfl rfl ?_
      refine RW.assign rfl rfl ?_
      refine RW.nil (EX.seq (CW.ret ?_))
      refine EX.fin2 Tryd.results17 rfl rfl (fun wz hw => ?_)
      -- mq: done
      exact ⟨by rw [writeV_ok (allOk_of hall)], hw⟩
end Go.Proofs.YtnpafpnameleaaaDoor.Mq
