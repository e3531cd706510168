/- osc: payloads as plain data; what is written says the sign -/
import Derived.Test.YtemcblinkicblaaDoorPu
import Derived.Test.YtemcblinkicblaaDoorTd
namespace Go.Proofs.YtemcblinkicblaaDoor.Mq
open Go Go.RowKit Go.Proofs

structure SgV where
  kind : Int
  code : Int
  has : Bool
  text : List UInt8
abbrev SgV.cells (x : SgV) : List Value := [.int .i64 x.kind, .int .i64 x.code, .bool x.has, .string (bs x.text)]
def ESg : Enc SgV := ⟨fun x => x.cells, 4, fun _ => rfl, fun _ => by repeat (first | exact Ones.nil | refine Ones.cons rfl ?_)⟩
def kindS (k : Int) : SgV := ⟨k, 0, false, []⟩
def noneS : SgV := kindS 0
def textS (k : Int) (s : List UInt8) : SgV := ⟨k, 0, false, s.take 256⟩
/-- a code's number -/
def codeD (s : List UInt8) : List UInt8 := if s.head? = some 45 then s.drop 1 else s
def codeOk (s : List UInt8) : Bool := decide (1 ≤ (codeD s).length) && decide ((codeD s).length ≤ 9) && (codeD s).all digitB
def codeF (s : List UInt8) : Int × Bool := if codeOk s = true then (if s.head? = some 45 then -(numD (codeD s) : Int) else (numD (codeD s) : Int), true) else (0, false)
/-- the next byte of an escaped text: how many bytes say it, and which it is -/
def nextE (s : List UInt8) : Nat × UInt8 :=
  if s.take 2 = [92, 92] then (2, 92) else
  if s.take 2 = [92, 120] ∧ 4 ≤ s.length ∧ 0 ≤ hexI (s.getD 2 0) ∧ 0 ≤ hexI (s.getD 3 0) then (4, twoU (s.getD 2 0) (s.getD 3 0)) else (1, s.headD 0)
theorem nextE_pos (s : List UInt8) : 1 ≤ (nextE s).1 := by
  unfold nextE
  split
  · exact Nat.le_succ 1
  · split
    · exact (by decide : (1 : Nat) ≤ 4)
    · exact Nat.le_refl 1
theorem nextE_le {s : List UInt8} (h : s ≠ []) : (nextE s).1 ≤ s.length := by
  have h0 := List.length_pos_iff.2 h
  unfold nextE
  split
  · rename_i h1
    have := congrArg List.length h1
    rw [List.length_take] at this
    simp at this
    omega
  · split
    · rename_i h2; exact h2.2.1
    · exact h0
def unescF (s : List UInt8) : List UInt8 := if h : s = [] then [] else (nextE s).2 :: unescF (s.drop (nextE s).1)
termination_by s.length
decreasing_by
  have h0 := List.length_pos_iff.2 h
  have := nextE_pos s
  rw [List.length_drop]; omega
theorem unescF_nil : unescF [] = [] := by rw [unescF, dif_pos rfl]
theorem unescF_step {s : List UInt8} (h : s ≠ []) : unescF s = (nextE s).2 :: unescF (s.drop (nextE s).1) := by rw [unescF, dif_neg h]
theorem unescF_len : ∀ (m : Nat) (s : List UInt8), s.length ≤ m → (unescF s).length ≤ s.length
  | m, s, hm => by
    by_cases h : s = []
    · rw [h, unescF_nil]; exact Nat.le_refl _
    · have h0 := List.length_pos_iff.2 h
      have h1 := nextE_pos s
      cases m with
      | zero => omega
      | succ m =>
        have := unescF_len m (s.drop (nextE s).1) (by rw [List.length_drop]; omega)
        rw [List.length_drop] at this
        rw [unescF_step h, List.length_cons]; omega
def escB (c : UInt8) : List UInt8 := if c = 92 then [92, 92] else if c.toNat ≤ 32 ∨ c = 59 then [92, 120, hexDig (c.toNat / 16), hexDig (c.toNat % 16)] else [c]
def escF (s : List UInt8) : List UInt8 := s.flatMap escB
theorem escF_cons (c : UInt8) (s : List UInt8) : escF (c :: s) = escB c ++ escF s := by simp [escF]
theorem escF_snoc (s : List UInt8) (c : UInt8) : escF (s ++ [c]) = escF s ++ escB c := by simp [escF]
theorem escB_len (c : UInt8) : (escB c).length ≤ 4 := by
  unfold escB
  split
  · decide
  · split
    · simp
    · simp
theorem escF_len : ∀ s : List UInt8, (escF s).length ≤ 4 * s.length
  | [] => Nat.le_refl _
  | c :: s => by
    have := escF_len s
    have := escB_len c
    rw [escF_cons, List.length_append, List.length_cons]; omega
theorem escB_mem : ∀ c : UInt8, ∀ d ∈ escB c, 32 < d.toNat ∧ d ≠ 59 := by
  refine all_bytes ?_
  decide +kernel
theorem escF_mem {s : List UInt8} {d : UInt8} (h : d ∈ escF s) : 32 < d.toNat ∧ d ≠ 59 := by
  obtain ⟨c, _, hc⟩ := List.mem_flatMap.1 h
  exact escB_mem c d hc
theorem hexDig_hexI : ∀ k, k < 16 → hexI (hexDig k) = (k : Int) := by decide
theorem twoU_dig (c : UInt8) : twoU (hexDig (c.toNat / 16)) (hexDig (c.toNat % 16)) = c := by
  have hc := UInt8.toNat_lt c
  unfold twoU
  rw [hexDig_hexI _ (by omega), hexDig_hexI _ (by omega)]
  apply UInt8.toNat_inj.1
  rw [UInt8.toNat_ofNat']
  omega
theorem nextE_esc (c : UInt8) (t : List UInt8) : nextE (escB c ++ t) = ((escB c).length, c) := by
  have hc := UInt8.toNat_lt c
  unfold escB
  by_cases h1 : c = 92
  · rw [if_pos h1, h1]; rfl
  · rw [if_neg h1]
    by_cases h2 : c.toNat ≤ 32 ∨ c = 59
    · rw [if_pos h2]
      unfold nextE
      rw [if_neg (by show ¬ [(92 : UInt8), 120] = [92, 92]; decide), if_pos ⟨rfl, by simp, by show 0 ≤ hexI (hexDig (c.toNat / 16)); rw [hexDig_hexI _ (by omega)]; omega, by show 0 ≤ hexI (hexDig (c.toNat % 16)); rw [hexDig_hexI _ (by omega)]; omega⟩]
      show (4, twoU (hexDig (c.toNat / 16)) (hexDig (c.toNat % 16))) = _
      rw [twoU_dig]; rfl
    · rw [if_neg h2]
      unfold nextE
      have hh : ∀ d e : UInt8, d = 92 → (c :: t).take 2 ≠ [d, e] := fun d e hd he => by
        cases t with
        | nil => simp at he
        | cons x r => simp at he; exact h1 (he.1.trans hd)
      rw [List.singleton_append, if_neg (hh 92 92 rfl), if_neg (fun h => hh 92 120 rfl h.1)]
      rfl
theorem unesc_esc : ∀ s : List UInt8, unescF (escF s) = s
  | [] => unescF_nil
  | c :: s => by
    have ih := unesc_esc s
    have hne : escB c ++ escF s ≠ [] := by
      unfold escB
      split
      · simp
      · split <;> simp
    rw [escF_cons, unescF_step hne, nextE_esc, List.drop_left, ih]
def oneF (s : List UInt8) : List UInt8 := (fullP 59 s).getD 0 []
def twoF (s : List UInt8) : List UInt8 := (fullP 59 s).getD 1 []
def threeF (s : List UInt8) : List UInt8 := (fullP 59 s).getD 2 []
def hasF (s : List UInt8) : Bool := decide (3 ≤ (fullP 59 s).length)
def restF (s : List UInt8) : List UInt8 := if 59 ∈ s then (s.dropWhile (· ≠ 59)).drop 1 else []
def cwdL : List UInt8 := [67, 119, 100, 61]
def curL : List UInt8 := [67, 117, 114, 114, 101, 110, 116, 68, 105, 114, 61]
def setL : List UInt8 := [83, 101, 116, 77, 97, 114, 107]
/-- what the fields behind 133, or 633, say -/
def shellF (full : Bool) (two three : List UInt8) (has : Bool) : SgV :=
  if two = [65] then kindS 1 else if two = [66] then kindS 2 else if two = [67] then kindS 3 else
  if two = [68] then (if has = true then ⟨4, (codeF three).1, (codeF three).2, []⟩ else kindS 4) else
  if two = [69] then (if full = true ∧ has = true then textS 5 (unescF three) else noneS) else
  if two = [80] then (if full = true ∧ three.take 4 = cwdL then textS 6 (unescF (three.drop 4)) else noneS) else noneS
def fileS (rest : List UInt8) : SgV := match fileL rest with
  | some p => textS 6 p.2
  | none => noneS
def setS (rest : List UInt8) : SgV := if rest = setL then kindS 7 else if rest.take 11 = curL then textS 6 (rest.drop 11) else noneS
/-- what a payload says -/
def readO (s : List UInt8) : SgV :=
  if oneF s = [49, 51, 51] ∨ oneF s = [54, 51, 51] then shellF (decide (oneF s = [54, 51, 51])) (twoF s) (threeF s) (hasF s) else
  if oneF s = [55] then fileS (restF s) else
  if oneF s = [49, 51, 51, 55] then setS (restF s) else
  if (oneF s = [48] ∨ oneF s = [50]) ∧ 59 ∈ s then textS 8 (restF s) else noneS
def doneL : List UInt8 := [49, 51, 51, 59, 68]
/-- a payload that says a sign -/
def writeO (x : SgV) : List UInt8 :=
  if x.kind = 1 then [49, 51, 51, 59, 65] else if x.kind = 2 then [49, 51, 51, 59, 66] else if x.kind = 3 then [49, 51, 51, 59, 67] else
  if x.kind = 4 then (if x.has = true then doneL ++ (59 :: Lib.itoa x.code) else doneL) else
  if x.kind = 5 then [54, 51, 51, 59, 69, 59] ++ escF x.text else
  if x.kind = 6 then [54, 51, 51, 59, 80, 59, 67, 119, 100, 61] ++ escF x.text else
  if x.kind = 7 then [49, 51, 51, 55, 59] ++ setL else
  if x.kind = 8 then [50, 59] ++ x.text else []
theorem readO_short (s : List UInt8) : (readO s).text.length ≤ 256 := by
  have h0 : ∀ k, (kindS k).text.length ≤ 256 := fun k => Nat.zero_le _
  have ht : ∀ k t, (textS k t).text.length ≤ 256 := fun k t => by
    show (t.take 256).length ≤ 256
    rw [List.length_take]; omega
  have hn : noneS.text.length ≤ 256 := Nat.zero_le _
  have hsh : ∀ f a b h, (shellF f a b h).text.length ≤ 256 := fun f a b h => by
    unfold shellF
    repeat' split
    all_goals first | exact h0 _ | exact ht _ _ | exact hn | exact Nat.zero_le _
  have hf : ∀ r, (fileS r).text.length ≤ 256 := fun r => by
    unfold fileS
    split
    · exact ht _ _
    · exact hn
  have hs : ∀ r, (setS r).text.length ≤ 256 := fun r => by
    unfold setS
    repeat' split
    all_goals first | exact h0 _ | exact ht _ _ | exact hn
  unfold readO
  repeat' split
  all_goals first | exact hsh _ _ _ _ | exact hf _ | exact hs _ | exact ht _ _ | exact hn
theorem codeF_itoa {n : Int} (h : -999999999 ≤ n ∧ n ≤ 999999999) : codeF (Lib.itoa n) = (n, true) := by
  have hl : ∀ u : Nat, u ≤ 999999999 → (Lib.decDigits u).length ≤ 9 := fun u hu => dec_len (k := 8) (by omega)
  have hp : ∀ u : Nat, 1 ≤ (Lib.decDigits u).length := fun u => List.length_pos_iff.2 (dec_ne u)
  have hd : ∀ u : Nat, (Lib.decDigits u).all digitB = true := fun u => List.all_eq_true.2 (dec_all u)
  unfold codeF codeOk codeD
  by_cases h0 : n < 0
  · rw [itoa_lt h0, if_pos (show (45 :: Lib.decDigits n.natAbs).head? = some 45 from rfl), List.drop_one, List.tail_cons, decide_eq_true (hp _), decide_eq_true (hl _ (by omega)), hd, if_pos (show (true && true && true) = true from rfl), if_pos (show (45 :: Lib.decDigits n.natAbs).head? = some 45 from rfl), numD_dec]
    congr 1; omega
  · rw [itoa_pos (by omega), if_neg (dec_head45 _), decide_eq_true (hp _), decide_eq_true (hl _ (by omega)), hd, if_pos (show (true && true && true) = true from rfl), if_neg (dec_head45 _), numD_dec]
    congr 1; omega
theorem full3 {a b c : List UInt8} (ha : (59 : UInt8) ∉ a) (hb : (59 : UInt8) ∉ b) (hc : (59 : UInt8) ∉ c) : fullP 59 (a ++ 59 :: (b ++ 59 :: c)) = [a, b, c] := by
  rw [fullP_cut ha, fullP_cut hb, fullP_out hc]
theorem readO_three {a b c : List UInt8} (ha : (59 : UInt8) ∉ a) (hb : (59 : UInt8) ∉ b) (hc : (59 : UInt8) ∉ c) (h : a = [49, 51, 51] ∨ a = [54, 51, 51]) :
    readO (a ++ 59 :: (b ++ 59 :: c)) = shellF (decide (a = [54, 51, 51])) b c true := by
  have hf := full3 ha hb hc
  have e1 : oneF (a ++ 59 :: (b ++ 59 :: c)) = a := by unfold oneF; rw [hf]; rfl
  have e2 : twoF (a ++ 59 :: (b ++ 59 :: c)) = b := by unfold twoF; rw [hf]; rfl
  have e3 : threeF (a ++ 59 :: (b ++ 59 :: c)) = c := by unfold threeF; rw [hf]; rfl
  have e4 : hasF (a ++ 59 :: (b ++ 59 :: c)) = true := by unfold hasF; rw [hf]; rfl
  unfold readO
  rw [e1, e2, e3, e4, if_pos h]
/-- the sign that is read again -/
def wantO (x : SgV) : SgV := if x.kind = 4 ∧ x.has = true then ⟨4, x.code, true, []⟩ else if x.kind = 5 ∨ x.kind = 6 ∨ x.kind = 8 then ⟨x.kind, 0, false, x.text⟩ else kindS x.kind
theorem back_o {x : SgV} (hk : 1 ≤ x.kind ∧ x.kind ≤ 8) (hc : -999999999 ≤ x.code ∧ x.code ≤ 999999999) (ht : x.text.length ≤ 256) : readO (writeO x) = wantO x := by
  obtain ⟨k, code, has, text⟩ := x
  dsimp only at hk hc ht
  have ne59 : (59 : UInt8) ∉ escF text := fun h => (escF_mem h).2 rfl
  have htk : text.take 256 = text := List.take_of_length_le ht
  rcases (show k = 1 ∨ k = 2 ∨ k = 3 ∨ k = 4 ∨ k = 5 ∨ k = 6 ∨ k = 7 ∨ k = 8 by omega) with rfl | rfl | rfl | rfl | rfl | rfl | rfl | rfl
  · rfl
  · rfl
  · rfl
  · cases has with
    | false => rfl
    | true =>
      have e : writeO ⟨4, code, true, text⟩ = [49, 51, 51] ++ 59 :: ([68] ++ 59 :: Lib.itoa code) := rfl
      have h59 : (59 : UInt8) ∉ Lib.itoa code := by
        intro h
        by_cases h0 : code < 0
        · rw [itoa_lt h0] at h
          rcases List.mem_cons.1 h with h | h
          · exact absurd h (by decide)
          · have := dec_digit _ _ h; revert this; decide
        · rw [itoa_pos (by omega)] at h
          have := dec_digit _ _ h; revert this; decide
      rw [e, readO_three (by decide) (by decide) h59 (.inl rfl)]
      show (⟨4, (codeF (Lib.itoa code)).1, (codeF (Lib.itoa code)).2, []⟩ : SgV) = _
      rw [codeF_itoa hc]; rfl
  · have e : writeO ⟨5, code, has, text⟩ = [54, 51, 51] ++ 59 :: ([69] ++ 59 :: escF text) := rfl
    rw [e, readO_three (by decide) (by decide) ne59 (.inr rfl)]
    show textS 5 (unescF (escF text)) = _
    rw [unesc_esc, textS, htk]; rfl
  · have e : writeO ⟨6, code, has, text⟩ = [54, 51, 51] ++ 59 :: ([80] ++ 59 :: (cwdL ++ escF text)) := rfl
    have n59 : (59 : UInt8) ∉ cwdL ++ escF text := fun h => by
      rcases List.mem_append.1 h with h | h
      · exact absurd h (by decide)
      · exact ne59 h
    rw [e, readO_three (by decide) (by decide) n59 (.inr rfl)]
    have hsh : shellF true [80] (cwdL ++ escF text) true = if true = true ∧ (cwdL ++ escF text).take 4 = cwdL then textS 6 (unescF ((cwdL ++ escF text).drop 4)) else noneS := rfl
    show shellF true [80] (cwdL ++ escF text) true = _
    rw [hsh, if_pos ⟨rfl, rfl⟩, show (cwdL ++ escF text).drop 4 = escF text from rfl, unesc_esc, textS, htk]; rfl
  · rfl
  · have e : writeO ⟨8, code, has, text⟩ = [50] ++ 59 :: text := rfl
    have h1 : oneF ([50] ++ 59 :: text) = [50] := by unfold oneF; rw [fullP_cut (by decide)]; rfl
    have hr : restF ([50] ++ 59 :: text) = text := by unfold restF; rw [if_pos (by simp), (cut_pre (by decide)).2]
    rw [e]
    unfold readO
    rw [h1, hr, if_neg (by decide), if_neg (by decide), if_neg (by decide), if_pos ⟨.inr rfl, by simp⟩, textS, htk]; rfl
/-- a mark's fields alone count -/
theorem mark_o {c : UInt8} (hc : c = 65 ∨ c = 66 ∨ c = 67) (more : List UInt8) : readO ([49, 51, 51, 59, c, 59] ++ more) = readO [49, 51, 51, 59, c] ∧ readO [49, 51, 51, 59, c] = kindS ((c.toNat : Int) - 64) := by
  have hc59 : (59 : UInt8) ∉ [c] := by rcases hc with rfl | rfl | rfl <;> decide
  have e1 : fullP 59 ([49, 51, 51, 59, c, 59] ++ more) = [49, 51, 51] :: [c] :: fullP 59 more := by
    rw [show [49, 51, 51, 59, c, 59] ++ more = [49, 51, 51] ++ 59 :: ([c] ++ 59 :: more) from rfl, fullP_cut (by decide), fullP_cut hc59]
  have e2 : fullP 59 [49, 51, 51, 59, c] = [[49, 51, 51], [c]] := by
    rw [show [49, 51, 51, 59, c] = [49, 51, 51] ++ 59 :: [c] from rfl, fullP_cut (by decide), fullP_out hc59]
  have hsh : ∀ t h, shellF false [c] t h = kindS ((c.toNat : Int) - 64) := fun t h => by rcases hc with rfl | rfl | rfl <;> rfl
  have r1 : readO ([49, 51, 51, 59, c, 59] ++ more) = kindS ((c.toNat : Int) - 64) := by
    unfold readO oneF twoF
    rw [e1]
    exact hsh _ _
  have r2 : readO [49, 51, 51, 59, c] = kindS ((c.toNat : Int) - 64) := by
    unfold readO oneF twoF
    rw [e2]
    exact hsh _ _
  exact ⟨r1.trans r2.symm, r2⟩
/-- digits in a row are a number to the library, too -/
theorem atoi_code {s : List UInt8} (h : codeOk s = true) : Lib.atoiAll s = .ok (codeF s).1 := by
  have hok := h
  unfold codeOk at h
  rw [Bool.and_eq_true, Bool.and_eq_true, decide_eq_true_eq, decide_eq_true_eq, List.all_eq_true] at h
  obtain ⟨⟨h1, h9⟩, hd⟩ := h
  have hb : ∀ (l : List UInt8), (∀ c ∈ l, digitB c = true) → ∀ a, l.foldl stepD a + 1 ≤ (a + 1) * 10 ^ l.length := by
    intro l
    induction l with
    | nil => intro _ a; simp
    | cons c l ih =>
      intro hl a
      have hc := of_decide_eq_true (hl c (by simp))
      have := ih (fun x hx => hl x (by simp [hx])) (stepD a c)
      rw [List.foldl_cons, List.length_cons, Nat.pow_succ]
      refine Nat.le_trans this ?_
      have : stepD a c + 1 ≤ (a + 1) * 10 := by unfold stepD; omega
      calc (stepD a c + 1) * 10 ^ l.length ≤ ((a + 1) * 10) * 10 ^ l.length := Nat.mul_le_mul_right _ this
        _ = (a + 1) * (10 ^ l.length * 10) := by rw [Nat.mul_assoc, Nat.mul_comm 10]
  have hlt : numD (codeD s) ≤ 999999999 := by
    have e1 := hb _ hd 0
    rw [← numD_eq] at e1
    have e2 : 10 ^ (codeD s).length ≤ 10 ^ 9 := Nat.pow_le_pow_right (by decide) h9
    have e3 : 10 ^ 9 = 1000000000 := by decide
    omega
  have hp : Lib.parseMag (codeD s) = .ok (numD (codeD s)) := by
    unfold Lib.parseMag
    rw [if_neg (fun e => by rw [e] at h1; simp at h1), parse_ok _ _ hd (by rw [← numD_eq]; omega), ← numD_eq]
  unfold codeF
  rw [if_pos hok]
  unfold codeD at hp hlt h1 hd ⊢
  cases s with
  | nil => simp at h1
  | cons c l =>
    by_cases h45 : (c :: l).head? = some 45
    · rw [if_pos h45] at hp hlt h1 hd ⊢
      have hc : c = 45 := by simpa using h45
      subst hc
      rw [List.drop_one, List.tail_cons] at hp hlt ⊢
      rw [Lib.atoiAll_minus, hp]
      simp only [Lib.signed]
      rw [if_neg (by omega), if_pos h45]
    · rw [if_neg h45] at hp hlt h1 hd ⊢
      have hc := of_decide_eq_true (hd c (by simp))
      rw [Lib.atoiAll_plain c l (by omega) (by omega), hp]
      simp only [Lib.signless]
      rw [if_neg (by omega), if_neg h45]
end Go.Proofs.YtemcblinkicblaaDoor.Mq
