/- osc: chapter 16: pct.File and the document beside it (printed by gen_pct.py) -/
import Derived.Test.YtemcblinkicblaaDoorPmData
import Derived.Test.YtemcblinkicblaaDoorCutB
import Derived.Test.YtemcblinkicblaaDoorDrawT
import Derived.Test.YtemcblinkicblaaDoorBits
import Derived.Test.YtemcblinkicblaaDoorTypes
import Derived.Shelf.Strings.Builder1
namespace Go.Proofs.YtemcblinkicblaaDoor.Mq
open Go Go.RowKit Go.Proofs

def betw (c lo hi : UInt8) : Bool := decide (lo.toNat ≤ c.toNat) && decide (c.toNat ≤ hi.toNat)
def marks : List UInt8 := [45, 46, 95, 126, 47]
def plainB (c : UInt8) : Bool := betw c 97 122 || betw c 65 90 || betw c 48 57 || marks.contains c
def digs : List UInt8 := [48, 49, 50, 51, 52, 53, 54, 55, 56, 57, 65, 66, 67, 68, 69, 70]
def hexU (n : Nat) : UInt8 := digs.getD n 0
def layB (c : UInt8) : List UInt8 := if plainB c then [c] else [37, hexU (c.toNat / 16), hexU (c.toNat % 16)]
def layL (s : List UInt8) : List UInt8 := s.flatMap layB
def hexI (c : UInt8) : Int := if betw c 48 57 then (c.toNat : Int) - 48 else if betw c 97 102 then (c.toNat : Int) - 97 + 10 else if betw c 65 70 then (c.toNat : Int) - 65 + 10 else -1
def twoU (a b : UInt8) : UInt8 := UInt8.ofNat (16 * (hexI a).toNat + (hexI b).toNat)
def takeL : List UInt8 → List UInt8 × Bool
  | [] => ([], true)
  | [c] => ([c], decide (c ≠ 37))
  | [c, d] => (c :: (takeL [d]).1, decide (c ≠ 37) && (takeL [d]).2)
  | c :: a :: b :: t =>
    if c ≠ 37 then (c :: (takeL (a :: b :: t)).1, (takeL (a :: b :: t)).2)
    else if 0 ≤ hexI a ∧ 0 ≤ hexI b then (twoU a b :: (takeL t).1, (takeL t).2)
    else (37 :: (takeL (a :: b :: t)).1, false)
def lowB (c : UInt8) : UInt8 := if betw c 65 90 then UInt8.ofNat (c.toNat + 32) else c
theorem hexI_range (c : UInt8) : -1 ≤ hexI c ∧ hexI c ≤ 15 := by
  unfold hexI betw
  have := c.toNat_lt
  simp only [Bool.and_eq_true, decide_eq_true_eq]
  have e1 : (48 : UInt8).toNat = 48 := rfl
  have e2 : (57 : UInt8).toNat = 57 := rfl
  have e3 : (97 : UInt8).toNat = 97 := rfl
  have e4 : (102 : UInt8).toNat = 102 := rfl
  have e5 : (65 : UInt8).toNat = 65 := rfl
  have e6 : (70 : UInt8).toNat = 70 := rfl
  rw [e1, e2, e3, e4, e5, e6]
  split
  · omega
  · split
    · omega
    · split <;> omega
end Go.Proofs.YtemcblinkicblaaDoor.Mq

namespace Go.Proofs.YtemcblinkicblaaDoor.Mq
open Go Go.RowKit Go.Proofs

theorem indexByte_in (l : List UInt8) (c : UInt8) : (0 ≤ Lib.indexByte l c) = (l.contains c = true) := by
  rcases ib_cases l c with ⟨h1, h2⟩ | ⟨pre, post, h1, h2, h3⟩
  · rw [h2]; simp [h1]
  · rw [h3, h1]; simp
/- all bytes, one by one -/
theorem all_bytes {p : UInt8 → Prop} (h : ∀ n : _root_.Fin 256, p (UInt8.ofNat n.val)) (c : UInt8) : p c := by
  have := h ⟨c.toNat, c.toNat_lt⟩
  simpa using this
theorem hexU_hexI : ∀ n : _root_.Fin 16, hexI (hexU n.val) = (n.val : Int) := by decide
theorem plain37 : plainB 37 = false := by decide
theorem layB_cases (c : UInt8) : (plainB c = true ∧ c ≠ 37 ∧ layB c = [c]) ∨ (plainB c = false ∧ layB c = [37, hexU (c.toNat / 16), hexU (c.toNat % 16)]) := by
  cases h : plainB c with
  | true => exact .inl ⟨rfl, fun e => (by rw [e, plain37] at h; cases h), by rw [layB, h]; rfl⟩
  | false => exact .inr ⟨rfl, by rw [layB, h]; rfl⟩
theorem two_back (c : UInt8) : twoU (hexU (c.toNat / 16)) (hexU (c.toNat % 16)) = c := by
  have hlt := c.toNat_lt
  have h1 := hexU_hexI ⟨c.toNat / 16, by omega⟩
  have h2 := hexU_hexI ⟨c.toNat % 16, by omega⟩
  dsimp only at h1 h2
  rw [twoU, h1, h2]
  have : 16 * ((c.toNat / 16 : Nat) : Int).toNat + ((c.toNat % 16 : Nat) : Int).toNat = c.toNat := by omega
  rw [this]
  simp
theorem takeL_cons {c : UInt8} (h : c ≠ 37) (t : List UInt8) : takeL (c :: t) = (c :: (takeL t).1, (takeL t).2) := by
  match t with
  | [] => simp [takeL, h]
  | [d] => simp [takeL, h]
  | a :: b :: t => rw [takeL, if_pos h]
theorem takeL_hex {a b : UInt8} (ha : 0 ≤ hexI a) (hb : 0 ≤ hexI b) (t : List UInt8) : takeL (37 :: a :: b :: t) = (twoU a b :: (takeL t).1, (takeL t).2) := by
  rw [takeL, if_neg (by simp), if_pos ⟨ha, hb⟩]
theorem takeL_bad {t : List UInt8} (h : ∀ a b u, t = a :: b :: u → ¬ (0 ≤ hexI a ∧ 0 ≤ hexI b)) : takeL (37 :: t) = (37 :: (takeL t).1, false) := by
  match t, h with
  | [], _ => simp [takeL]
  | [d], _ => simp [takeL]
  | a :: b :: t, h => rw [takeL, if_neg (by simp), if_neg (h a b t rfl)]
/-- what is laid is taken again -/
theorem take_lay (s t : List UInt8) : takeL (layL s ++ t) = (s ++ (takeL t).1, (takeL t).2) := by
  induction s with
  | nil => rfl
  | cons c s ih =>
    have e : layL (c :: s) ++ t = layB c ++ (layL s ++ t) := by simp [layL]
    have hlt := c.toNat_lt
    rw [e]
    rcases layB_cases c with ⟨_, h2, h3⟩ | ⟨_, h2⟩
    · rw [h3, List.singleton_append, takeL_cons h2, ih]; rfl
    · have h3 := hexU_hexI ⟨c.toNat / 16, by omega⟩
      have h4 := hexU_hexI ⟨c.toNat % 16, by omega⟩
      dsimp only at h3 h4
      rw [h2, List.cons_append, List.cons_append, List.cons_append, List.nil_append, takeL_hex (by omega) (by omega), two_back, ih]; rfl
theorem layL_app (s t : List UInt8) : layL (s ++ t) = layL s ++ layL t := by simp [layL]
theorem layL_length (s : List UInt8) : (layL s).length ≤ 3 * s.length := by
  induction s with
  | nil => simp [layL]
  | cons c s ih =>
    have e : layL (c :: s) = layB c ++ layL s := by simp [layL]
    rw [e, List.length_append, List.length_cons]
    rcases layB_cases c with ⟨_, _, h⟩ | ⟨_, h⟩ <;> rw [h] <;> simp <;> omega
theorem takeL_length : ∀ (n : Nat) (s : List UInt8), s.length ≤ n → (takeL s).1.length ≤ s.length
  | _, [], _ => by simp [takeL]
  | 0, _ :: _, h => by simp at h
  | n + 1, c :: t, h => by
    simp only [List.length_cons] at h ⊢
    by_cases hc : c = 37
    · subst hc
      by_cases hh : ∃ a b u, t = a :: b :: u ∧ 0 ≤ hexI a ∧ 0 ≤ hexI b
      · obtain ⟨a, b, u, rfl, h1, h2⟩ := hh
        rw [takeL_hex h1 h2]
        simp only [List.length_cons] at h ⊢
        have := takeL_length n u (by omega)
        omega
      · rw [takeL_bad (fun a b u e hab => hh ⟨a, b, u, e, hab.1, hab.2⟩)]
        have := takeL_length n t (by omega)
        simp only [List.length_cons]
        omega
    · rw [takeL_cons hc]
      have := takeL_length n t (by omega)
      simp only [List.length_cons]
      omega
/- addresses -/
def schemeL : List UInt8 := [102, 105, 108, 101, 58, 47, 47]
def schemeU : List UInt8 := [70, 73, 76, 69, 58, 47, 47]
def lowL (s : List UInt8) : List UInt8 := s.map lowB
def fileL (s : List UInt8) : Option (List UInt8 × List UInt8) :=
  if 7 ≤ s.length ∧ lowL (s.take 7) = schemeL then
    (if Lib.indexByte (s.drop 7) 47 < 0 then none else some ((s.drop 7).take (Lib.indexByte (s.drop 7) 47).toNat, (takeL ((s.drop 7).drop (Lib.indexByte (s.drop 7) 47).toNat)).1))
  else none
set_option maxRecDepth 100000 in
theorem low_char : ∀ (k : _root_.Fin 7) (c : UInt8), (lowB c = schemeL.getD k.val 0) ↔ (c = schemeL.getD k.val 0 ∨ c = schemeU.getD k.val 0) := by
  intro k
  refine all_bytes ?_
  revert k
  decide
end Go.Proofs.YtemcblinkicblaaDoor.Mq

namespace Go.Proofs.YtemcblinkicblaaDoor.Mq
open Go Go.RowKit Go.Proofs

theorem between_c (w : World) (c lo hi : UInt8) :
    Calls Tryd.prog 59 [.int .u8 (c.toNat : Int), .int .u8 (lo.toNat : Int), .int .u8 (hi.toNat : Int)].toArray w (fun e w' => e = .returned (.bool (betw c lo hi)) ∧ w' = w) := by
  refine calls (n := 15) Tryd.func59 rfl Tryd.ntmps59 rfl ?_
  refine CW.seq (CW.region ?_)
  refine RW.assign rfl rfl ?_
  refine RW.nil (EX.seq (CW.seq (CW.region ?_)))
  refine RW.move rfl rfl ?_
  refine RW.move rfl rfl ?_
  refine RW.geq rfl rfl rfl ?_
  refine RW.move rfl rfl ?_
  -- mq: guard slot 10
  refine RW.casesB 10 rfl (fun h1 => ?_) (fun h1 => ?_)
  · skip
    have h1p := of_decide_eq_true h1
    refine RW.guardT rfl rfl h1 ?_
    refine RW.move rfl rfl ?_
    refine RW.guardT rfl rfl h1 ?_
    refine RW.move rfl rfl ?_
    refine RW.guardT rfl rfl h1 ?_
    refine RW.leq rfl rfl rfl ?_
    refine RW.pickB rfl rfl h1 rfl ?_
    refine RW.assign rfl rfl ?_
    refine RW.nil (EX.seq (CW.ret ?_))
    refine EX.fin1 Tryd.results59 rfl (fun wz hw => ?_)
    -- mq: done
    exact ⟨by unfold betw; rw [decide_eq_true (show lo.toNat ≤ c.toNat by omega)]; simp, hw⟩
  · skip
    have h1p := of_decide_eq_false h1
    refine RW.guardF rfl rfl rfl h1 ?_
    refine RW.guardF rfl rfl rfl h1 ?_
    refine RW.guardF rfl rfl rfl h1 ?_
    refine RW.pickC rfl rfl h1 rfl ?_
    refine RW.assign rfl rfl ?_
    refine RW.nil (EX.seq (CW.ret ?_))
    refine EX.fin1 Tryd.results59 rfl (fun wz hw => ?_)
    -- mq: done
    exact ⟨by unfold betw; rw [decide_eq_false (show ¬ lo.toNat ≤ c.toNat by omega)]; rfl, hw⟩
theorem hex_c (w : World) (c : UInt8) :
    Calls Tryd.prog 93 [.int .u8 (c.toNat : Int)].toArray w (fun e w' => e = .returned (.int .i64 (hexI c)) ∧ w' = w) := by
  have hlt := c.toNat_lt
  refine calls (n := 23) Tryd.func93 rfl Tryd.ntmps93 rfl ?_
  refine CW.seq (CW.region ?_)
  refine RW.assign rfl rfl ?_
  refine RW.nil (EX.seq (CW.seq (CW.block (CW.seq (CW.region ?_)))))
  refine RW.move rfl rfl ?_
  -- mq: op 1: ('Op.call', ('Call.mk', ('Callee.value', ('Operand.func', '59')), ('arr', ('Operand.tmp', '4'), ('Operand.const', ('Value.int', 'IntKind.u8', '48')), ('Operand.const', ('Value.int', 'IntKind.u8', '57'))), ('arr', '5', '5', '5'))) -> slot 5 ("pct.go:46")
  refine RW.callP rfl ca59 rfl (fun w' _ => between_c w' c 48 57) ?_
  refine RW.assign rfl rfl ?_
  refine RW.nil (EX.seq ?_)
  -- mq: cond
  first | refine CW.condD rfl (fun h1 => ?_) (fun h1 => ?_) | refine CW.cond rfl (fun h1 => ?_) (fun h1 => ?_)
  · skip
    have h2 : 48 ≤ c.toNat := by simp [betw] at h1; exact h1.1
    refine CW.seq (CW.region ?_)
    refine RW.move rfl rfl ?_
    refine RW.sub_ rfl rfl rfl (r := (c.toNat : Int) - 48) (wrapN8 (by omega) (by omega)) ?_
    refine RW.convI rfl rfl Tryd.underlying5 Tryd.underlying3 (wrap64 (by omega) (by omega)) ?_
    refine RW.assign rfl rfl ?_
    refine RW.nil (EX.seq (CW.ret (EX.bkR (EX.seqR ?_))))
    refine EX.fin1 Tryd.results93 rfl (fun wz hw => ?_)
    -- mq: done
    exact ⟨by rw [hexI, if_pos h1], hw⟩
  · skip
    refine CW.seq (CW.region ?_)
    refine RW.move rfl rfl ?_
    -- mq: op 1: ('Op.call', ('Call.mk', ('Callee.value', ('Operand.func', '59')), ('arr', ('Operand.tmp', '10'), ('Operand.const', ('Value.int', 'IntKind.u8', '97')), ('Operand.const', ('Value.int', 'IntKind.u8', '102'))), ('arr', '5', '5', '5'))) -> slot 11 ("pct.go:48")
    refine RW.callP rfl ca59 rfl (fun w' _ => between_c w' c 97 102) ?_
    refine RW.assign rfl rfl ?_
    refine RW.nil (EX.seq ?_)
    -- mq: cond
    first | refine CW.condD rfl (fun h2 => ?_) (fun h2 => ?_) | refine CW.cond rfl (fun h2 => ?_) (fun h2 => ?_)
    · skip
      have h3 : 97 ≤ c.toNat := by simp [betw] at h2; exact h2.1
      refine CW.seq (CW.region ?_)
      refine RW.move rfl rfl ?_
      refine RW.sub_ rfl rfl rfl (r := (c.toNat : Int) - 97) (wrapN8 (by omega) (by omega)) ?_
      refine RW.convI rfl rfl Tryd.underlying5 Tryd.underlying3 (wrap64 (by omega) (by omega)) ?_
      refine RW.add rfl rfl rfl (wrap64 (by omega) (by omega)) ?_
      refine RW.assign rfl rfl ?_
      refine RW.nil (EX.seq (CW.ret (EX.bkR (EX.seqR ?_))))
      refine EX.fin1 Tryd.results93 rfl (fun wz hw => ?_)
      -- mq: done
      exact ⟨by rw [hexI, if_neg (by simp [h1]), if_pos h2], hw⟩
    · skip
      refine CW.seq (CW.region ?_)
      refine RW.move rfl rfl ?_
      -- mq: op 1: ('Op.call', ('Call.mk', ('Callee.value', ('Operand.func', '59')), ('arr', ('Operand.tmp', '17'), ('Operand.const', ('Value.int', 'IntKind.u8', '65')), ('Operand.const', ('Value.int', 'IntKind.u8', '70'))), ('arr', '5', '5', '5'))) -> slot 18 ("pct.go:50")
      refine RW.callP rfl ca59 rfl (fun w' _ => between_c w' c 65 70) ?_
      refine RW.assign rfl rfl ?_
      refine RW.nil (EX.seq ?_)
      -- mq: cond
      first | refine CW.condD rfl (fun h3 => ?_) (fun h3 => ?_) | refine CW.cond rfl (fun h3 => ?_) (fun h3 => ?_)
      · skip
        have h4 : 65 ≤ c.toNat := by simp [betw] at h3; exact h3.1
        refine CW.seq (CW.region ?_)
        refine RW.move rfl rfl ?_
        refine RW.sub_ rfl rfl rfl (r := (c.toNat : Int) - 65) (wrapN8 (by omega) (by omega)) ?_
        refine RW.convI rfl rfl Tryd.underlying5 Tryd.underlying3 (wrap64 (by omega) (by omega)) ?_
        refine RW.add rfl rfl rfl (wrap64 (by omega) (by omega)) ?_
        refine RW.assign rfl rfl ?_
        refine RW.nil (EX.seq (CW.ret (EX.bkR (EX.seqR ?_))))
        refine EX.fin1 Tryd.results93 rfl (fun wz hw => ?_)
        -- mq: done
        exact ⟨by rw [hexI, if_neg (by simp [h1]), if_neg (by simp [h2]), if_pos h3], hw⟩
      · skip
        refine CW.skip (EX.bkN (EX.seq (CW.seq (CW.region ?_))))
        refine RW.assign rfl rfl ?_
        refine RW.nil (EX.seq (CW.ret ?_))
        refine EX.fin1 Tryd.results93 rfl (fun wz hw => ?_)
        -- mq: done
        exact ⟨by rw [hexI, if_neg (by simp [h1]), if_neg (by simp [h2]), if_neg (by simp [h3])], hw⟩
end Go.Proofs.YtemcblinkicblaaDoor.Mq

namespace Go.Proofs.YtemcblinkicblaaDoor.Mq
open Go Go.RowKit Go.Proofs

theorem IndexByte_c (w : World) (s : List UInt8) (c : UInt8) :
    Calls Tryd.prog 43 [.string (bs s), .int .u8 (c.toNat : Int)].toArray w (fun e w' => e = .returned (.int .i64 (Lib.indexByte s c)) ∧ w' = w) := by
  refine calls (n := 8) Tryd.func43 rfl Tryd.ntmps43 rfl ?_
  refine CW.seq (CW.region ?_)
  refine RW.assign rfl rfl ?_
  refine RW.nil (EX.seq (CW.seq (CW.region ?_)))
  refine RW.move rfl rfl ?_
  refine RW.move rfl rfl ?_
  -- mq: op 2: ('Op.call', ('Call.mk', ('Callee.value', ('Operand.func', '60')), ('arr', ('Operand.tmp', '5'), ('Operand.tmp', '6')), ('arr', '9', '5'))) -> slot 7 ("strings.go:103")
  refine RW.callP rfl caSlIB rfl (fun w' _ => slIndexByte_c w' s c) ?_
  refine RW.assign rfl rfl ?_
  refine RW.nil (EX.seq (CW.ret ?_))
  refine EX.fin1 Tryd.results43 rfl (fun wz hw => ?_)
  -- mq: done
  exact ⟨rfl, hw⟩
def codeI (a b : UInt8) : Int := IntKind.u8.wrap (((max 0 (hexI a)).toNat * 16 ||| (max 0 (hexI b)).toNat : Nat) : Int)
def codeV (s : List UInt8) (i : Nat) : Value := if i + 2 < s.length then .tuple #[.int .u8 (codeI (s.getD (i + 1) 0) (s.getD (i + 2) 0)), .bool (decide (0 ≤ hexI (s.getD (i + 1) 0)) && decide (0 ≤ hexI (s.getD (i + 2) 0)))] else .tuple #[.int .u8 0, .bool false]
theorem code_c (w : World) (s : List UInt8) (i : Nat) (hs : s.length ≤ 1000000) (hi : i < s.length) :
    Calls Tryd.prog 77 [.string (bs s), .int .i64 (i : Int)].toArray w (fun e w' => e = .returned (codeV s i) ∧ Ext [] w w') := by
  refine calls (n := 36) Tryd.func77 rfl Tryd.ntmps77 rfl ?_
  refine CW.sub (H' := SH w [] []) ?_ (Sub.refl _) (fun x hx => SH.start' _ _ hx)
  refine CW.seq (CW.region ?_)
  refine RW.assign rfl rfl ?_
  refine RW.assign rfl rfl ?_
  refine RW.nil (EX.seq (CW.seq (CW.seq (CW.region ?_))))
  refine RW.move rfl rfl ?_
  refine RW.add rfl rfl rfl (wrap64 (by omega) (by omega)) ?_
  refine RW.move rfl rfl ?_
  refine RW.lenS Tryd.underlying9 rfl rfl ?_
  refine RW.geq rfl rfl rfl ?_
  refine RW.nil (EX.seq ?_)
  -- mq: cond
  first | refine CW.condD rfl (fun h1 => ?_) (fun h1 => ?_) | refine CW.cond rfl (fun h1 => ?_) (fun h1 => ?_)
  · skip
    refine CW.seq (CW.region ?_)
    refine RW.assign rfl rfl ?_
    refine RW.assign rfl rfl ?_
    refine RW.nil (EX.seq (CW.ret (EX.seqR ?_)))
    refine EX.fin2 Tryd.results77 rfl rfl (fun wz hw => ?_)
    -- mq: done
    exact ⟨by rw [codeV, if_neg (by omega)], hw.ext⟩
  · skip
    obtain ⟨a, ha⟩ : ∃ a, s[i + 1]? = some a := ⟨s[i + 1]'(by omega), List.getElem?_eq_getElem _⟩
    obtain ⟨b, hb⟩ : ∃ b, s[i + 2]? = some b := ⟨s[i + 2]'(by omega), List.getElem?_eq_getElem _⟩
    have hra := hexI_range a
    have hrb := hexI_range b
    refine CW.skip (EX.seq (CW.seq ?_))
    refine CW.drawq mixed (by kernel_rfl) (fun _ hw => hw.drew) ?_
    refine DRq.cons rfl (RW.move rfl rfl RW.jn) ?_
    refine DRq.cons rfl (RW.move rfl rfl RW.jn) ?_
    refine DRq.cons rfl (RW.add rfl rfl rfl (wrap64 (by omega) (by omega)) RW.jn) ?_
    refine DRq.cons rfl (RW.ixStr (q := i + 1) Tryd.underlying9 rfl rfl rfl (by omega) ha RW.jn) ?_
    refine DRq.cons rfl (RW.callP rfl ca93 rfl (fun w' _ => hex_c w' a) RW.jn) ?_
    refine DRq.cons rfl (RW.move rfl rfl RW.jn) ?_
    refine DRq.cons rfl (RW.move rfl rfl RW.jn) ?_
    refine DRq.cons rfl (RW.add rfl rfl rfl (wrap64 (by omega) (by omega)) RW.jn) ?_
    refine DRq.cons rfl (RW.ixStr (q := i + 2) Tryd.underlying9 rfl rfl rfl (by omega) hb RW.jn) ?_
    refine DRq.cons rfl (RW.callP rfl ca93 rfl (fun w' _ => hex_c w' b) RW.jn) ?_
    refine DRq.cons rfl (RW.assign rfl rfl RW.jn) ?_
    refine DRq.cons rfl (RW.assign rfl rfl RW.jn) ?_
    refine DRq.nil (EX.seq (CW.seq ?_))
    -- mq: region
    have hor : (max 0 (hexI a)).toNat * 16 ||| (max 0 (hexI b)).toNat < 2 ^ 8 := Nat.or_lt_two_pow (by omega) (by omega)
    refine CW.region ?_
    refine RW.move rfl rfl ?_
    refine RW.max2 rfl rfl rfl ?_
    refine RW.shlN rfl rfl rfl (by decide) (r := max 0 (hexI a) * 16) (by rw [show min (4 : Int).toNat IntKind.i64.bits = 4 from rfl]; exact wrap64 (by omega) (by omega)) ?_
    refine RW.move rfl rfl ?_
    refine RW.max2 rfl rfl rfl ?_
    refine RW.or_ rfl rfl rfl (r := (((max 0 (hexI a)).toNat * 16 ||| (max 0 (hexI b)).toNat : Nat) : Int)) (or_eq (m := (max 0 (hexI a)).toNat * 16) (n := (max 0 (hexI b)).toNat) (by omega) (by omega) (by show _ < 2 ^ 64; omega) (by show _ < 2 ^ 64; omega) (wrap64 (by omega) (by omega))) ?_
    refine RW.convI rfl rfl Tryd.underlying3 Tryd.underlying5 (r := codeI a b) rfl ?_
    refine RW.move rfl rfl ?_
    refine RW.geq rfl rfl rfl ?_
    refine RW.move rfl rfl ?_
    -- mq: guard slot 32
    have hga : s.getD (i + 1) 0 = a := by simp [List.getD, ha]
    have hgb : s.getD (i + 2) 0 = b := by simp [List.getD, hb]
    refine RW.casesB 32 rfl (fun h32 => ?_) (fun h32 => ?_)
    · skip
      have h32p := of_decide_eq_true h32
      refine RW.guardT rfl rfl h32 ?_
      refine RW.move rfl rfl ?_
      refine RW.guardT rfl rfl h32 ?_
      refine RW.geq rfl rfl rfl ?_
      refine RW.pickB rfl rfl h32 rfl ?_
      refine RW.assign rfl rfl ?_
      refine RW.assign rfl rfl ?_
      refine RW.nil (EX.seq (CW.ret ?_))
      refine EX.fin2 Tryd.results77 rfl rfl (fun wz hw => ?_)
      -- mq: done
      exact ⟨by rw [codeV, if_pos (by omega), hga, hgb, decide_eq_true h32p, Bool.true_and], hw.ext⟩
    · skip
      have h32p := of_decide_eq_false h32
      refine RW.guardF rfl rfl rfl h32 ?_
      refine RW.guardF rfl rfl rfl h32 ?_
      refine RW.pickC rfl rfl h32 rfl ?_
      refine RW.assign rfl rfl ?_
      refine RW.assign rfl rfl ?_
      refine RW.nil (EX.seq (CW.ret ?_))
      refine EX.fin2 Tryd.results77 rfl rfl (fun wz hw => ?_)
      -- mq: done
      exact ⟨by rw [codeV, if_pos (by omega), hga, hgb, decide_eq_false h32p, Bool.false_and], hw.ext⟩
theorem lowByte_c (w : World) (c : UInt8) :
    Calls Tryd.prog 58 [.int .u8 (c.toNat : Int)].toArray w (fun e w' => e = .returned (.string (bs [lowB c])) ∧ Ext [] w w') := by
  have hlt := c.toNat_lt
  refine calls (n := 10) Tryd.func58 rfl Tryd.ntmps58 rfl ?_
  refine CW.sub (H' := SH w [] []) ?_ (Sub.refl _) (fun x hx => SH.start' _ _ hx)
  refine CW.seq (CW.region ?_)
  refine RW.assign rfl rfl ?_
  refine RW.nil (EX.seq (CW.seq (CW.seq (CW.region ?_))))
  refine RW.move rfl rfl ?_
  -- mq: op 1: ('Op.call', ('Call.mk', ('Callee.value', ('Operand.func', '59')), ('arr', ('Operand.tmp', '3'), ('Operand.const', ('Value.int', 'IntKind.u8', '65')), ('Operand.const', ('Value.int', 'IntKind.u8', '90'))), ('arr', '5', '5', '5'))) -> slot 4 ("pct.go:103")
  refine RW.callP rfl ca59 rfl (fun w' _ => between_c w' c 65 90) ?_
  refine RW.nil (EX.seq ?_)
  -- mq: cond
  first | refine CW.condD rfl (fun h1 => ?_) (fun h1 => ?_) | refine CW.cond rfl (fun h1 => ?_) (fun h1 => ?_)
  · skip
    have h2 : c.toNat ≤ 90 := by simp [betw] at h1; exact h1.2
    refine CW.region ?_
    refine RW.move rfl rfl ?_
    refine RW.add rfl rfl rfl (r := ((lowB c).toNat : Int)) (by rw [wrapN8 (by omega) (by omega), lowB, if_pos h1]; simp; omega) ?_
    refine RW.assign rfl rfl ?_
    refine RW.nil (EX.seq (CW.seq (CW.region ?_)))
    refine RW.move rfl rfl ?_
    refine RW.buildSlc sl56 rfl rfl rfl rfl (fun g8 hg8 hf8 => ?_)
    -- mq: op 2: ('Op.convert', '56', '9', ('Operand.tmp', '8')) -> slot 9 ("pct.go:106")
    refine RW.bytesStr (s := [lowB c]) Tryd.underlying56 Tryd.underlying5 Tryd.underlying9 rfl rfl (fun w' hw' => Rd.of_blk (E := EU8) (L := [lowB c]) hw' Has.head rfl (by decide)) ?_
    refine RW.assign rfl rfl ?_
    refine RW.nil (EX.seq (CW.ret ?_))
    refine EX.fin1 Tryd.results58 rfl (fun wz hw => ?_)
    -- mq: done
    exact ⟨rfl, hw.ext⟩
  · skip
    refine CW.skip (EX.seq (CW.seq (CW.region ?_)))
    refine RW.move rfl rfl ?_
    refine RW.buildSlc sl56 rfl rfl rfl rfl (fun g8 hg8 hf8 => ?_)
    -- mq: op 2: ('Op.convert', '56', '9', ('Operand.tmp', '8')) -> slot 9 ("pct.go:106")
    refine RW.bytesStr (s := [c]) Tryd.underlying56 Tryd.underlying5 Tryd.underlying9 rfl rfl (fun w' hw' => Rd.of_blk (E := EU8) (L := [c]) hw' Has.head rfl (by decide)) ?_
    refine RW.assign rfl rfl ?_
    refine RW.nil (EX.seq (CW.ret ?_))
    refine EX.fin1 Tryd.results58 rfl (fun wz hw => ?_)
    -- mq: done
    exact ⟨by rw [lowB, if_neg (by simp [h1])], hw.ext⟩
end Go.Proofs.YtemcblinkicblaaDoor.Mq

namespace Go.Proofs.YtemcblinkicblaaDoor.Mq
open Go Go.RowKit Go.Proofs

def rnB : Shelf.Ren := ⟨fun | 166 => 74 | 169 => 75 | 240 => 92 | 276 => 101 | n => n, fun | 0 => 0 | 3 => 3 | 4 => 4 | 5 => 5 | 9 => 9 | 20 => 20 | 37 => 56 | 70 => 86 | 72 => 88 | 75 => 53 | 80 => 89 | 127 => 104 | 164 => 116 | n => n, fun n => n⟩
theorem lays166 : Lays.n166 Tryd.prog rnB where
  mixed := by kernel_rfl
  f166 := Tryd.func74.trans (congrArg some (by kernel_rfl))
  f240 := Tryd.func92.trans (congrArg some (by kernel_rfl))
  f276 := Tryd.func101.trans (congrArg some (by kernel_rfl))
  t0 := Tryd.underlying0
  a0 := Tryd.isAgg0
  z0 := Tryd.sizeOf0
  v0 := Tryd.zeroValue0
  t3 := Tryd.underlying3
  a3 := Tryd.isAgg3
  z3 := Tryd.sizeOf3
  v3 := Tryd.zeroValue3
  t4 := Tryd.underlying4
  a4 := Tryd.isAgg4
  z4 := Tryd.sizeOf4
  v4 := Tryd.zeroValue4
  t9 := Tryd.underlying9
  a9 := Tryd.isAgg9
  z9 := Tryd.sizeOf9
  v9 := Tryd.zeroValue9
  t20 := Tryd.underlying20
  a20 := Tryd.isAgg20
  z20 := Tryd.sizeOf20
  v20 := Tryd.zeroValue20
  t37 := Tryd.underlying56
  a37 := Tryd.isAgg56
  z37 := Tryd.sizeOf56
  v37 := Tryd.zeroValue56
  t70 := Tryd.underlying86
  a70 := Tryd.isAgg86
  z70 := Tryd.sizeOf86
  v70 := Tryd.zeroValue86
  t72 := Tryd.underlying88
  a72 := Tryd.isAgg88
  z72 := Tryd.sizeOf88
  v72 := Tryd.zeroValue88
  t75 := Tryd.underlying53
  a75 := Tryd.isAgg53
  z75 := Tryd.sizeOf53
  v75 := Tryd.zeroValue53
  t164 := Tryd.underlying116
  a164 := Tryd.isAgg116
  z164 := Tryd.sizeOf116
  v164 := Tryd.zeroValue116
theorem lays169 : Lays.n169 Tryd.prog rnB where
  mixed := by kernel_rfl
  f169 := Tryd.func75.trans (congrArg some (by kernel_rfl))
  t0 := Tryd.underlying0
  a0 := Tryd.isAgg0
  z0 := Tryd.sizeOf0
  v0 := Tryd.zeroValue0
  t3 := Tryd.underlying3
  a3 := Tryd.isAgg3
  z3 := Tryd.sizeOf3
  v3 := Tryd.zeroValue3
  t9 := Tryd.underlying9
  a9 := Tryd.isAgg9
  z9 := Tryd.sizeOf9
  v9 := Tryd.zeroValue9
  t37 := Tryd.underlying56
  a37 := Tryd.isAgg56
  z37 := Tryd.sizeOf56
  v37 := Tryd.zeroValue56
  t70 := Tryd.underlying86
  a70 := Tryd.isAgg86
  z70 := Tryd.sizeOf86
  v70 := Tryd.zeroValue86
  t72 := Tryd.underlying88
  a72 := Tryd.isAgg88
  z72 := Tryd.sizeOf88
  v72 := Tryd.zeroValue88
  t127 := Tryd.underlying104
  a127 := Tryd.isAgg104
  z127 := Tryd.sizeOf104
  v127 := Tryd.zeroValue104
theorem extraB : Builder.Extra Tryd.prog rnB where
  sizeBuilder := by kernel_rfl
  liesBuilder := by kernel_rfl
  t5 := Tryd.underlying5
  a5 := Tryd.isAgg5
  z5 := Tryd.sizeOf5
  v5 := Tryd.zeroValue5
  infoByte := by kernel_rfl
  cellsByte := by kernel_rfl
  sizeByte := by kernel_rfl
  neB5 := by decide
theorem Bld.ext {B b : Nat} {xs : List Value} {w w' : World} {T e : TypeId} (h : Lib.IsBuilder T e B b xs w) (hx : Ext [] w w') : Lib.IsBuilder T e B b xs w' := by
  have key : ∀ p, Lib.BuilderAt T e B b p xs w → Lib.BuilderAt T e B b p xs w' := by
    intro p hp
    have hlt := hp.lt
    obtain ⟨hB, v, hb, hown, hne⟩ := hp
    refine ⟨hB, v, ?_, hown.kept (row := none) ⟨hx.os, hx.tape, hx.output, hx.size, fun k hk _ => hx.block k hk (by simp)⟩ ?_, hne⟩
    · rw [hx.block b hlt (by simp)]; exact hb
    · cases v.ownBlock <;> simp
  exact h.elim (fun x => .inl (key _ x)) (fun x => .inr (key _ x))
def BldH (w : World) (b : Nat) (s : List UInt8) (w' : World) : Prop := Ext [] w w' ∧ Lib.IsBuilder 88 5 w.heap.size b (Lib.byteCells s) w'
theorem Ext.belowB {w w' w'' : World} (h : Ext [] w w') (hb : Below w.heap.size w' w'') : Ext [] w w'' :=
  ⟨hb.os.trans h.os, hb.tape.trans h.tape, hb.output.trans h.output, Nat.le_trans h.size hb.size, fun k hk hn => (hb.block k hk).trans (h.block k hk hn)⟩
theorem writeString_c (w : World) (b : Nat) (s t : List UInt8) (w' : World) (h : BldH w b s w') (hl : s.length + t.length ≤ 140737488355328) :
    Calls Tryd.prog 74 [.pointer (some ⟨b, 0, none⟩), .string (bs t)].toArray w' (fun e w'' => e = .returned (.tuple #[.int .i64 (t.length : Int), .nilIface]) ∧ BldH w b (s ++ t) w'') := by
  have := Any.Builder_WriteString lays166 extraB w.heap.size b (Lib.byteCells s) (bs t) w' h.2 (by rw [Lib.byteCells_length, bs_size]; exact hl) h.1.size
  refine Calls.mono this ?_
  rintro e w'' ⟨rfl, hb, hbel⟩
  refine ⟨by rw [bs_size], Ext.belowB h.1 hbel, .inr ?_⟩
  · have e : Lib.byteCells (s ++ t) = Lib.byteCells s ++ Lib.strCells (bs t) := by rw [Lib.strCells_eq]; simp [Lib.byteCells]
    rw [e]
    exact hb
theorem bldString_c (w : World) (b : Nat) (s : List UInt8) (w' : World) (h : BldH w b s w') :
    Calls Tryd.prog 75 [.pointer (some ⟨b, 0, none⟩)].toArray w' (fun e w'' => e = .returned (.string (bs s)) ∧ Ext [] w w'') := by
  by_cases h0 : s = []
  · subst h0
    refine Calls.mono (Any.Builder_String_empty lays169 extraB w.heap.size b w' h.2 h.1.size) ?_
    rintro e w'' ⟨rfl, hbel⟩
    exact ⟨rfl, Ext.belowB h.1 hbel⟩
  · refine Calls.mono (Any.Builder_String lays169 extraB w.heap.size b s w' h.2 h0) ?_
    rintro e w'' ⟨rfl, hbel⟩
    exact ⟨rfl, Ext.belowB h.1 hbel⟩
theorem caWS : CaT Tryd.prog 74 := CaT.of Tryd.func74 (by kernel_rfl) (by kernel_rfl)
theorem caBS : CaT Tryd.prog 75 := CaT.of Tryd.func75 (by kernel_rfl) (by kernel_rfl)
theorem each_c (w : World) (f : FuncId) (g : UInt8 → List UInt8) (hf : CaT Tryd.prog f) (hc : ∀ w' c, Calls Tryd.prog f [.int .u8 (UInt8.toNat c : Int)].toArray w' (fun e w'' => e = .returned (.string (bs (g c))) ∧ Ext [] w' w'')) (hg : ∀ c, (g c).length ≤ 3) (s : List UInt8) (hs : s.length ≤ 1000000) :
    Calls Tryd.prog 57 [.string (bs s), .func (.func f) #[] #[]].toArray w (fun e w' => e = .returned (.string (bs (s.flatMap g))) ∧ Ext [] w w') := by
  have hlen : ∀ l : List UInt8, (l.flatMap g).length ≤ 3 * l.length := by
    intro l
    induction l with
    | nil => simp
    | cons c l ih => have := hg c; simp only [List.flatMap_cons, List.length_append, List.length_cons]; omega
  refine calls (n := 20) Tryd.func57 rfl Tryd.ntmps57 rfl ?_
  refine CW.sub (H' := SH w [] []) ?_ (Sub.refl _) (fun x hx => SH.start' _ _ hx)
  refine CW.seq (CW.region ?_)
  refine RW.assign rfl rfl ?_
  refine RW.nil (EX.seq (CW.seq (CW.region ?_)))
  refine RW.allocA ag88 rfl (fun g5 hg5 hf5 => ?_)
  refine RW.nil (EX.seq (CW.seq (CW.seq (CW.region ?_))))
  refine RW.assign rfl rfl ?_
  refine RW.nil (EX.seq (CW.block ?_))
  -- mq: loop
  refine CW.loop (ι := Nat) (fun i => [(0, .string (bs s)), (1, .func (.func f) #[] #[]), (5, .pointer (some ⟨g5, 0, none⟩)), (6, .int .i64 (i : Int))]) (fun i => BldH w g5 ((s.take i).flatMap g)) (fun i => i ≤ s.length) (fun i => s.length - i) ?_ ?_
  · refine fun w' hw' => ⟨0, Nat.zero_le _, (by repeat (first | exact Sub.nil | refine Sub.cons (by rfl) ?_)), hw'.ext, .inl ?_⟩
    have hb := hw'.has (c := blk g5 [.pointer none, .slice none 0 0] 88) Has.head
    exact ⟨hg5, .slice none 0 0, hb, World.ownsRow_nil _ _ _ _, by simp [Value.ownBlock]⟩
  · rintro i hi
    refine CW.seq (CW.seq (CW.region ?_))
    refine RW.move rfl rfl ?_
    refine RW.move rfl rfl ?_
    refine RW.lenS Tryd.underlying9 rfl rfl ?_
    refine RW.lss rfl rfl rfl ?_
    refine RW.nil (EX.seq ?_)
    -- mq: cond
    first | refine CW.condD rfl (fun hlt => ?_) (fun hlt => ?_) | refine CW.cond rfl (fun hlt => ?_) (fun hlt => ?_)
    · skip
      obtain ⟨c, hcx⟩ : ∃ c, s[i]? = some c := ⟨s[i]'(by omega), List.getElem?_eq_getElem _⟩
      have htk : (s.take (i + 1)).flatMap g = (s.take i).flatMap g ++ g c := by rw [List.take_add_one, hcx, Option.toList_some, List.flatMap_append]; simp
      have hl1 := hlen (s.take i)
      have hl2 := hg c
      have hl3 : (s.take i).length ≤ s.length := by rw [List.length_take]; omega
      refine CW.skip (EX.seq (CW.seq (CW.block (CW.region ?_))))
      refine RW.move rfl rfl ?_
      refine RW.move rfl rfl ?_
      refine RW.move rfl rfl ?_
      refine RW.ixStr (q := i) Tryd.underlying9 rfl rfl rfl (by omega) hcx ?_
      -- mq: op 4: ('Op.call', ('Call.mk', ('Callee.value', ('Operand.tmp', '13')), ('arr', ('Operand.tmp', '16')), ('arr', '5'))) -> slot 17 ("pct.go:28")
      refine RW.callIV (v := .string (bs (g c))) (H' := BldH w g5 ((s.take i).flatMap g)) rfl rfl hf rfl (fun w' hw' => ?_) ?_
      · refine Calls.mono (hc w' c) ?_
        rintro e w'' ⟨rfl, hx⟩
        exact ⟨rfl, hw'.1.trans0 hx, Bld.ext hw'.2 hx⟩
      refine RW.callI (v := .tuple #[.int .i64 ((g c).length : Int), .nilIface]) (H' := BldH w g5 ((s.take (i + 1)).flatMap g)) rfl caWS rfl (fun w' hw' => ?_) ?_
      · rw [htk]
        exact writeString_c w g5 _ (g c) w' hw' (by omega)
      refine RW.nil (EX.bkN (EX.seq (CW.region ?_)))
      refine RW.move rfl rfl ?_
      refine RW.add rfl rfl rfl (wrap64 (by omega) (by omega)) ?_
      refine RW.assign rfl rfl ?_
      refine RW.nil ?_
      -- mq: loopend
      exact EX.lpN (i + 1) (by omega) (by omega) (by repeat (first | exact Sub.nil | refine Sub.cons (by rfl) ?_)) (fun w' hw' => hw')
    · skip
      have his : s.take i = s := List.take_of_length_le (by omega)
      rw [his]
      refine CW.exit (EX.seqE (EX.lpE (EX.bkE (EX.seq (CW.seq (CW.region ?_))))))
      -- mq: op 0: ('Op.call', ('Call.mk', ('Callee.value', ('Operand.func', '75')), ('arr', ('Operand.tmp', '5')), ('arr', '88'))) -> slot 19 ("pct.go:30")
      refine RW.callI (v := .string (bs (s.flatMap g))) (H' := fun w' => Ext [] w w') rfl caBS rfl (fun w' hw' => bldString_c w g5 _ w' hw') ?_
      refine RW.assign rfl rfl ?_
      refine RW.nil (EX.seq (CW.ret ?_))
      refine EX.fin1 Tryd.results57 rfl (fun wz hw => ?_)
      -- mq: done
      exact ⟨rfl, hw⟩
theorem lower_c (w : World) (s : List UInt8) (hs : s.length ≤ 1000000) :
    Calls Tryd.prog 42 [.string (bs s)].toArray w (fun e w' => e = .returned (.string (bs (lowL s))) ∧ Ext [] w w') := by
  refine calls (n := 5) Tryd.func42 rfl Tryd.ntmps42 rfl ?_
  refine CW.sub (H' := SH w [] []) ?_ (Sub.refl _) (fun x hx => SH.start' _ _ hx)
  refine CW.seq (CW.region ?_)
  refine RW.assign rfl rfl ?_
  refine RW.nil (EX.seq (CW.seq (CW.region ?_)))
  refine RW.move rfl rfl ?_
  -- mq: op 1: ('Op.call', ('Call.mk', ('Callee.value', ('Operand.func', '57')), ('arr', ('Operand.tmp', '3'), ('Operand.func', '58')), ('arr', '9', '76'))) -> slot 4 ("pct.go:102")
  refine RW.call rfl ca57 rfl (fun w' _ => each_c w' 58 (fun c => [lowB c]) ca58 (fun w'' c => lowByte_c w'' c) (fun c => by simp) s hs) ?_
  refine RW.assign rfl rfl ?_
  refine RW.nil (EX.seq (CW.ret ?_))
  refine EX.fin1 Tryd.results42 rfl (fun wz hw => ?_)
  -- mq: done
  refine ⟨?_, hw.ext⟩
  rw [lowL, List.map_eq_flatMap]
end Go.Proofs.YtemcblinkicblaaDoor.Mq

namespace Go.Proofs.YtemcblinkicblaaDoor.Mq
open Go Go.RowKit Go.Proofs

set_option maxRecDepth 100000 in
theorem or16 : ∀ a b : _root_.Fin 16, a.val * 16 ||| b.val = a.val * 16 + b.val := by decide
theorem codeI_two {a b : UInt8} (ha : 0 ≤ hexI a) (hb : 0 ≤ hexI b) : codeI a b = ((twoU a b).toNat : Int) := by
  have h1 := hexI_range a
  have h2 := hexI_range b
  have e1 : max 0 (hexI a) = hexI a := by omega
  have e2 : max 0 (hexI b) = hexI b := by omega
  have h3 := or16 ⟨(hexI a).toNat, by omega⟩ ⟨(hexI b).toNat, by omega⟩
  dsimp only at h3
  rw [codeI, e1, e2, h3, wrapN8 (by omega) (by omega), twoU]
  have : (UInt8.ofNat (16 * (hexI a).toNat + (hexI b).toNat)).toNat = 16 * (hexI a).toNat + (hexI b).toNat := by
    rw [UInt8.toNat_ofNat']; omega
  omega
theorem take_c (w : World) (s : List UInt8) (hs : s.length ≤ 1000000) :
    Calls Tryd.prog 61 [.string (bs s)].toArray w (fun e w' => e = .returned (.tuple #[.string (bs (takeL s).1), .bool (takeL s).2]) ∧ Ext [] w w') := by
  refine calls (n := 44) Tryd.func61 rfl Tryd.ntmps61 rfl ?_
  refine CW.sub (H' := SH w [] []) ?_ (Sub.refl _) (fun x hx => SH.start' _ _ hx)
  refine CW.seq (CW.region ?_)
  refine RW.assign rfl rfl ?_
  refine RW.assign rfl rfl ?_
  refine RW.nil (EX.seq (CW.seq ?_))
  -- mq: region
  refine CW.ownNil 5 1 ?_
  refine CW.region ?_
  refine RW.assign rfl rfl ?_
  refine RW.nil (EX.seq (CW.seq (CW.region ?_)))
  refine RW.assign rfl rfl ?_
  refine RW.nil (EX.seq (CW.seq (CW.seq (CW.region ?_))))
  refine RW.assign rfl rfl ?_
  refine RW.nil (EX.seq (CW.block ?_))
  -- mq: loop
  refine CW.loop (ι := Nat × Value × List UInt8 × Bool) (fun t => [(0, .string (bs s)), (4, t.2.1), (5, .bool t.2.2.2), (6, .int .i64 (t.1 : Int))]) (fun t => SH w [] [own 5 1 t.2.1 t.2.2.1.length (EU8.all t.2.2.1)]) (fun t => t.1 ≤ s.length ∧ t.2.2.1.length ≤ t.1 ∧ takeL s = (t.2.2.1 ++ (takeL (s.drop t.1)).1, t.2.2.2 && (takeL (s.drop t.1)).2)) (fun t => s.length - t.1) ?_ ?_
  · exact fun w' hw' => ⟨(0, .slice none 0 0, [], true), ⟨Nat.zero_le _, Nat.zero_le _, by simp⟩, (by repeat (first | exact Sub.nil | refine Sub.cons (by rfl) ?_)), hw'⟩
  · rintro ⟨i, v, O, al⟩ ⟨hi, hO, hspec⟩
    dsimp only at hi hO hspec ⊢
    refine CW.seq (CW.seq (CW.region ?_))
    refine RW.move rfl rfl ?_
    refine RW.move rfl rfl ?_
    refine RW.lenS Tryd.underlying9 rfl rfl ?_
    refine RW.lss rfl rfl rfl ?_
    refine RW.nil (EX.seq ?_)
    -- mq: cond
    first | refine CW.condD rfl (fun hlt => ?_) (fun hlt => ?_) | refine CW.cond rfl (fun hlt => ?_) (fun hlt => ?_)
    · skip
      obtain ⟨c, hcx⟩ : ∃ c, s[i]? = some c := ⟨s[i]'(by omega), List.getElem?_eq_getElem _⟩
      have hd : s.drop i = c :: s.drop (i + 1) := by rw [List.drop_eq_getElem_cons (by omega), (List.getElem?_eq_some_iff.1 hcx).2]
      have hsnoc : ∀ x : UInt8, EU8.all (O ++ [x]) = EU8.all O ++ EU8.enc x := fun x => Enc.all_snoc EU8 O x
      rw [hd] at hspec
      refine CW.skip (EX.seq (CW.seq (CW.block (CW.seq (CW.seq (CW.region ?_))))))
      refine RW.move rfl rfl ?_
      refine RW.move rfl rfl ?_
      refine RW.ixStr (q := i) Tryd.underlying9 rfl rfl rfl (by omega) hcx ?_
      refine RW.neqI rfl rfl rfl ?_
      refine RW.nil (EX.seq ?_)
      -- mq: cond
      first | refine CW.condD rfl (fun h18 => ?_) (fun h18 => ?_) | refine CW.cond rfl (fun h18 => ?_) (fun h18 => ?_)
      · skip
        have hc37 : c ≠ 37 := fun e => h18 (by rw [e]; rfl)
        refine CW.seq (CW.region ?_)
        refine RW.move rfl rfl ?_
        refine RW.move rfl rfl ?_
        refine RW.move rfl rfl ?_
        refine RW.ixStr (q := i) Tryd.underlying9 rfl rfl rfl (by omega) hcx ?_
        refine RW.buildSlc sl56 rfl rfl rfl rfl (fun g23 hg23 hf23 => ?_)
        refine RW.append1 sl56 rfl rfl rfl (by first | exact Rem.head | exact Rem.tail Rem.head | exact Rem.tail (Rem.tail Rem.head) | exact Rem.tail (Rem.tail (Rem.tail Rem.head)) | exact Rem.tail (Rem.tail (Rem.tail (Rem.tail Rem.head))) | exact Rem.tail (Rem.tail (Rem.tail (Rem.tail (Rem.tail Rem.head)))) | exact Rem.tail (Rem.tail (Rem.tail (Rem.tail (Rem.tail (Rem.tail Rem.head)))))) (fun _ => by first | exact Upd.head | exact Upd.tail Upd.head | exact Upd.tail (Upd.tail Upd.head) | exact Upd.tail (Upd.tail (Upd.tail Upd.head)) | exact Upd.tail (Upd.tail (Upd.tail (Upd.tail Upd.head))) | exact Upd.tail (Upd.tail (Upd.tail (Upd.tail (Upd.tail Upd.head)))) | exact Upd.tail (Upd.tail (Upd.tail (Upd.tail (Upd.tail (Upd.tail Upd.head)))))) rfl (by repeat (first | exact Ones.nil | exact Enc.ones _ _ | refine Ones.cons rfl ?_)) (by simp only [maxLen]; omega) (by omega) (fun v24 hv24 => ?_)
        refine RW.assign rfl rfl ?_
        refine RW.nil (EX.seq (CW.exit (EX.seqE (EX.bkE (EX.seq (CW.region ?_))))))
        refine RW.move rfl rfl ?_
        refine RW.add rfl rfl rfl (wrap64 (by omega) (by omega)) ?_
        refine RW.assign rfl rfl ?_
        refine RW.nil ?_
        -- mq: loopend
        rw [takeL_cons hc37] at hspec
        refine EX.lpN (i + 1, v24, O ++ [c], al) ⟨by dsimp only; omega, by simp; omega, by rw [hspec]; simp⟩ (by dsimp only; omega) (by repeat (first | exact Sub.nil | refine Sub.cons (by rfl) ?_)) (fun w' hw' => ?_)
        dsimp only
        rw [hsnoc, List.length_append]
        exact hw'
      · skip
        have hc37 : c = 37 := UInt8.toNat_inj.1 (by have : (37 : UInt8).toNat = 37 := rfl; omega)
        subst hc37
        refine CW.skip (EX.seq (CW.seq (CW.seq ?_)))
        -- mq: region
        by_cases hh : i + 2 < s.length
        · skip
          obtain ⟨a, ha⟩ : ∃ a, s[i + 1]? = some a := ⟨s[i + 1]'(by omega), List.getElem?_eq_getElem _⟩
          obtain ⟨b, hb⟩ : ∃ b, s[i + 2]? = some b := ⟨s[i + 2]'(by omega), List.getElem?_eq_getElem _⟩
          have hga : s.getD (i + 1) 0 = a := by simp [List.getD, ha]
          have hgb : s.getD (i + 2) 0 = b := by simp [List.getD, hb]
          have hd1 : s.drop (i + 1) = a :: b :: s.drop (i + 3) := by rw [List.drop_eq_getElem_cons (by omega), (List.getElem?_eq_some_iff.1 ha).2, List.drop_eq_getElem_cons (by omega), (List.getElem?_eq_some_iff.1 hb).2]
          refine CW.region ?_
          refine RW.move rfl rfl ?_
          refine RW.move rfl rfl ?_
          -- mq: at
          refine RW.call rfl ca77 rfl (fun w' _ => code_c w' s i hs (by omega)) ?_
          rw [codeV, if_pos hh, hga, hgb]
          refine RW.move rfl rfl ?_
          refine RW.extract rfl rfl rfl ?_
          refine RW.extract rfl rfl rfl ?_
          refine RW.assign rfl rfl ?_
          refine RW.assign rfl rfl ?_
          refine RW.nil (EX.seq (CW.seq (CW.region ?_)))
          refine RW.move rfl rfl ?_
          refine RW.nil (EX.seq ?_)
          -- mq: cond
          first | refine CW.condD rfl (fun h31 => ?_) (fun h31 => ?_) | refine CW.cond rfl (fun h31 => ?_) (fun h31 => ?_)
          · skip
            simp only [Bool.and_eq_true, decide_eq_true_eq] at h31
            rw [hd1, takeL_hex h31.1 h31.2] at hspec
            rw [codeI_two h31.1 h31.2]
            refine CW.seq (CW.region ?_)
            refine RW.move rfl rfl ?_
            refine RW.move rfl rfl ?_
            refine RW.buildSlc sl56 rfl rfl rfl rfl (fun g34 hg34 hf34 => ?_)
            refine RW.append1 sl56 rfl rfl rfl (by first | exact Rem.head | exact Rem.tail Rem.head | exact Rem.tail (Rem.tail Rem.head) | exact Rem.tail (Rem.tail (Rem.tail Rem.head)) | exact Rem.tail (Rem.tail (Rem.tail (Rem.tail Rem.head))) | exact Rem.tail (Rem.tail (Rem.tail (Rem.tail (Rem.tail Rem.head)))) | exact Rem.tail (Rem.tail (Rem.tail (Rem.tail (Rem.tail (Rem.tail Rem.head)))))) (fun _ => by first | exact Upd.head | exact Upd.tail Upd.head | exact Upd.tail (Upd.tail Upd.head) | exact Upd.tail (Upd.tail (Upd.tail Upd.head)) | exact Upd.tail (Upd.tail (Upd.tail (Upd.tail Upd.head))) | exact Upd.tail (Upd.tail (Upd.tail (Upd.tail (Upd.tail Upd.head)))) | exact Upd.tail (Upd.tail (Upd.tail (Upd.tail (Upd.tail (Upd.tail Upd.head)))))) rfl (by repeat (first | exact Ones.nil | exact Enc.ones _ _ | refine Ones.cons rfl ?_)) (by simp only [maxLen]; omega) (by omega) (fun v35 hv35 => ?_)
            refine RW.assign rfl rfl ?_
            refine RW.nil (EX.seq (CW.seq (CW.region ?_)))
            refine RW.move rfl rfl ?_
            refine RW.add rfl rfl rfl (wrap64 (by omega) (by omega)) ?_
            refine RW.assign rfl rfl ?_
            refine RW.nil (EX.seq (CW.exit (EX.seqE (EX.bkE (EX.seq (CW.region ?_))))))
            refine RW.move rfl rfl ?_
            refine RW.add rfl rfl rfl (wrap64 (by omega) (by omega)) ?_
            refine RW.assign rfl rfl ?_
            refine RW.nil ?_
            -- mq: loopend
            refine EX.lpN (i + 3, v35, O ++ [twoU a b], al) ⟨by dsimp only; omega, by simp; omega, by rw [hspec]; simp⟩ (by dsimp only; omega) (Sub.cons (by rfl) (Sub.cons (by rfl) (Sub.cons (by rfl) (Sub.cons (by simp [look]; omega) Sub.nil)))) (fun w' hw' => ?_)
            dsimp only
            rw [hsnoc, List.length_append]
            exact hw'
          · skip
            simp only [Bool.and_eq_false_iff, decide_eq_false_iff_not] at h31
            have hbad : ∀ x y u, s.drop (i + 1) = x :: y :: u → ¬ (0 ≤ hexI x ∧ 0 ≤ hexI y) := fun x y u e => by
              rw [hd1] at e
              simp only [List.cons.injEq] at e
              obtain ⟨rfl, rfl, _⟩ := e
              omega
            rw [takeL_bad hbad] at hspec
            refine CW.skip (EX.seq (CW.seq (CW.region ?_)))
            refine RW.move rfl rfl ?_
            refine RW.buildSlc sl56 rfl rfl rfl rfl (fun g39 hg39 hf39 => ?_)
            refine RW.append1 sl56 rfl rfl rfl (by first | exact Rem.head | exact Rem.tail Rem.head | exact Rem.tail (Rem.tail Rem.head) | exact Rem.tail (Rem.tail (Rem.tail Rem.head)) | exact Rem.tail (Rem.tail (Rem.tail (Rem.tail Rem.head))) | exact Rem.tail (Rem.tail (Rem.tail (Rem.tail (Rem.tail Rem.head)))) | exact Rem.tail (Rem.tail (Rem.tail (Rem.tail (Rem.tail (Rem.tail Rem.head)))))) (fun _ => by first | exact Upd.head | exact Upd.tail Upd.head | exact Upd.tail (Upd.tail Upd.head) | exact Upd.tail (Upd.tail (Upd.tail Upd.head)) | exact Upd.tail (Upd.tail (Upd.tail (Upd.tail Upd.head))) | exact Upd.tail (Upd.tail (Upd.tail (Upd.tail (Upd.tail Upd.head)))) | exact Upd.tail (Upd.tail (Upd.tail (Upd.tail (Upd.tail (Upd.tail Upd.head)))))) rfl (by repeat (first | exact Ones.nil | exact Enc.ones _ _ | refine Ones.cons rfl ?_)) (by simp only [maxLen]; omega) (by omega) (fun v40 hv40 => ?_)
            refine RW.assign rfl rfl ?_
            refine RW.nil (EX.seq (CW.region ?_))
            refine RW.assign rfl rfl ?_
            refine RW.nil (EX.bkN (EX.seq (CW.region ?_)))
            refine RW.move rfl rfl ?_
            refine RW.add rfl rfl rfl (wrap64 (by omega) (by omega)) ?_
            refine RW.assign rfl rfl ?_
            refine RW.nil ?_
            -- mq: loopend
            refine EX.lpN (i + 1, v40, O ++ [37], false) ⟨by dsimp only; omega, by simp; omega, by rw [hspec]; simp⟩ (by dsimp only; omega) (by repeat (first | exact Sub.nil | refine Sub.cons (by rfl) ?_)) (fun w' hw' => ?_)
            dsimp only
            rw [hsnoc, List.length_append]
            exact hw'
        · skip
          have hbad : ∀ x y u, s.drop (i + 1) = x :: y :: u → ¬ (0 ≤ hexI x ∧ 0 ≤ hexI y) := fun x y u e => by
            have := congrArg List.length e
            simp at this
            omega
          rw [takeL_bad hbad] at hspec
          refine CW.region ?_
          refine RW.move rfl rfl ?_
          refine RW.move rfl rfl ?_
          -- mq: at
          refine RW.call rfl ca77 rfl (fun w' _ => code_c w' s i hs (by omega)) ?_
          rw [codeV, if_neg hh]
          refine RW.move rfl rfl ?_
          refine RW.extract rfl rfl rfl ?_
          refine RW.extract rfl rfl rfl ?_
          refine RW.assign rfl rfl ?_
          refine RW.assign rfl rfl ?_
          refine RW.nil (EX.seq (CW.seq (CW.region ?_)))
          refine RW.move rfl rfl ?_
          refine RW.nil (EX.seq ?_)
          -- mq: cond
          refine CW.condF rfl (rfl) ?_
          refine CW.skip (EX.seq (CW.seq (CW.region ?_)))
          refine RW.move rfl rfl ?_
          refine RW.buildSlc sl56 rfl rfl rfl rfl (fun g39 hg39 hf39 => ?_)
          refine RW.append1 sl56 rfl rfl rfl (by first | exact Rem.head | exact Rem.tail Rem.head | exact Rem.tail (Rem.tail Rem.head) | exact Rem.tail (Rem.tail (Rem.tail Rem.head)) | exact Rem.tail (Rem.tail (Rem.tail (Rem.tail Rem.head))) | exact Rem.tail (Rem.tail (Rem.tail (Rem.tail (Rem.tail Rem.head)))) | exact Rem.tail (Rem.tail (Rem.tail (Rem.tail (Rem.tail (Rem.tail Rem.head)))))) (fun _ => by first | exact Upd.head | exact Upd.tail Upd.head | exact Upd.tail (Upd.tail Upd.head) | exact Upd.tail (Upd.tail (Upd.tail Upd.head)) | exact Upd.tail (Upd.tail (Upd.tail (Upd.tail Upd.head))) | exact Upd.tail (Upd.tail (Upd.tail (Upd.tail (Upd.tail Upd.head)))) | exact Upd.tail (Upd.tail (Upd.tail (Upd.tail (Upd.tail (Upd.tail Upd.head)))))) rfl (by repeat (first | exact Ones.nil | exact Enc.ones _ _ | refine Ones.cons rfl ?_)) (by simp only [maxLen]; omega) (by omega) (fun v40 hv40 => ?_)
          refine RW.assign rfl rfl ?_
          refine RW.nil (EX.seq (CW.region ?_))
          refine RW.assign rfl rfl ?_
          refine RW.nil (EX.bkN (EX.seq (CW.region ?_)))
          refine RW.move rfl rfl ?_
          refine RW.add rfl rfl rfl (wrap64 (by omega) (by omega)) ?_
          refine RW.assign rfl rfl ?_
          refine RW.nil ?_
          -- mq: loopend
          refine EX.lpN (i + 1, v40, O ++ [37], false) ⟨by dsimp only; omega, by simp; omega, by rw [hspec]; simp⟩ (by dsimp only; omega) (by repeat (first | exact Sub.nil | refine Sub.cons (by rfl) ?_)) (fun w' hw' => ?_)
          dsimp only
          rw [hsnoc, List.length_append]
          exact hw'
    · skip
      have hil : i = s.length := by omega
      refine CW.formOwn (v := v) Has.head (fun A4 c4 hv4 hcap4 hmax4 hlen4 hg4 => ?_)
      subst hv4
      refine CW.exit (EX.seqE (EX.lpE (EX.bkE (EX.seq (CW.seq (CW.region ?_))))))
      refine RW.move rfl rfl ?_
      -- mq: op 1: ('Op.convert', '56', '9', ('Operand.tmp', '41')) -> slot 42 ("pct.go:82")
      refine RW.bytesStr (s := O) (F := fun k => (Value.slice A4 O.length c4).ownBlock = some k) Tryd.underlying56 Tryd.underlying5 Tryd.underlying9 rfl rfl (fun w' hw' => ?_) ?_
      · obtain ⟨A6, c6, he6, hrd6⟩ := Rd.of_own (E := EU8) (hw'.has Has.head) rfl
        cases he6
        exact hrd6
      refine RW.move rfl rfl ?_
      refine RW.assign rfl rfl ?_
      refine RW.assign rfl rfl ?_
      refine RW.nil (EX.seq (CW.ret ?_))
      refine EX.fin2 Tryd.results61 rfl rfl (fun wz hw => ?_)
      -- mq: done
      subst hil
      rw [List.drop_length] at hspec
      refine ⟨?_, hw.ext⟩
      rw [hspec]
      simp [takeL]
theorem Take_c (w : World) (s : List UInt8) (hs : s.length ≤ 1000000) :
    Calls Tryd.prog 44 [.string (bs s)].toArray w (fun e w' => e = .returned (.string (bs (takeL s).1)) ∧ Ext [] w w') := by
  refine calls (n := 11) Tryd.func44 rfl Tryd.ntmps44 rfl ?_
  refine CW.sub (H' := SH w [] []) ?_ (Sub.refl _) (fun x hx => SH.start' _ _ hx)
  refine CW.seq (CW.region ?_)
  refine RW.assign rfl rfl ?_
  refine RW.nil (EX.seq (CW.seq (CW.region ?_)))
  refine RW.move rfl rfl ?_
  -- mq: op 1: ('Op.call', ('Call.mk', ('Callee.value', ('Operand.func', '61')), ('arr', ('Operand.tmp', '6')), ('arr', '9'))) -> slot 7 ("pct.go:87")
  refine RW.call rfl ca61 rfl (fun w' _ => take_c w' s hs) ?_
  refine RW.move rfl rfl ?_
  refine RW.extract rfl rfl rfl ?_
  refine RW.extract rfl rfl rfl ?_
  refine RW.assign rfl rfl ?_
  refine RW.assign rfl rfl ?_
  refine RW.nil (EX.seq (CW.seq (CW.region ?_)))
  refine RW.move rfl rfl ?_
  refine RW.assign rfl rfl ?_
  refine RW.nil (EX.seq (CW.ret ?_))
  refine EX.fin1 Tryd.results44 rfl (fun wz hw => ?_)
  -- mq: done
  exact ⟨rfl, hw.ext⟩
def strictV (s : List UInt8) : Value := if (takeL s).2 = true then .tuple #[.string (bs (takeL s).1), .bool true] else .tuple #[.string (bs []), .bool false]
end Go.Proofs.YtemcblinkicblaaDoor.Mq

namespace Go.Proofs.YtemcblinkicblaaDoor.Mq
open Go Go.RowKit Go.Proofs

def fileV (s : List UInt8) : Value := match fileL s with
  | some p => .tuple #[.string (bs p.1), .string (bs p.2), .int .i64 0]
  | none => .tuple #[.string (bs []), .string (bs []), .int .i64 4]
theorem File_c (w : World) (s : List UInt8) (hs : s.length ≤ 1000000) :
    Calls Tryd.prog 23 [.string (bs s)].toArray w (fun e w' => e = .returned (fileV s) ∧ Ext [] w w') := by
  refine calls (n := 29) Tryd.func23 rfl Tryd.ntmps23 rfl ?_
  refine CW.sub (H' := SH w [] []) ?_ (Sub.refl _) (fun x hx => SH.start' _ _ hx)
  refine CW.seq (CW.region ?_)
  refine RW.assign rfl rfl ?_
  refine RW.assign rfl rfl ?_
  refine RW.assign rfl rfl ?_
  refine RW.nil (EX.seq (CW.seq (CW.seq (CW.region ?_))))
  refine RW.move rfl rfl ?_
  refine RW.lenS Tryd.underlying9 rfl rfl ?_
  refine RW.lss rfl rfl rfl ?_
  refine RW.move rfl rfl ?_
  -- mq: guard slot 10
  refine RW.casesB 10 rfl (fun h10 => ?_) (fun h10 => ?_)
  · skip
    have h10p := of_decide_eq_true h10
    refine RW.guardF rfl rfl rfl h10 ?_
    refine RW.guardF rfl rfl rfl h10 ?_
    refine RW.guardF rfl rfl rfl h10 ?_
    refine RW.guardF rfl rfl rfl h10 ?_
    refine RW.pickB rfl rfl h10 rfl ?_
    refine RW.nil (EX.seq ?_)
    -- mq: cond
    refine CW.condT rfl (rfl) ?_
    refine CW.seq (CW.region ?_)
    refine RW.assign rfl rfl ?_
    refine RW.assign rfl rfl ?_
    refine RW.assign rfl rfl ?_
    refine RW.nil (EX.seq (CW.ret (EX.seqR ?_)))
    refine EX.fin3 Tryd.results23 rfl rfl rfl (fun wz hw => ?_)
    -- mq: done
    exact ⟨by rw [fileV, fileL, if_neg (by omega)], hw.ext⟩
  · skip
    have h10p := of_decide_eq_false h10
    have h7 : (s.take 7).length = 7 := by rw [List.length_take]; omega
    refine RW.guardT rfl rfl h10 ?_
    refine RW.move rfl rfl ?_
    refine RW.guardT rfl rfl h10 ?_
    refine RW.sliceStrH 7 Tryd.underlying9 rfl rfl rfl (by first | rfl | omega) (by first | omega | (simp; done) | (simp; omega)) ?_
    refine RW.guardT rfl rfl h10 ?_
    -- mq: op 6: ('Op.call', ('Call.mk', ('Callee.value', ('Operand.func', '42')), ('arr', ('Operand.tmp', '12')), ('arr', '9'))) -> slot 13 ("pct.go:112")
    refine RW.call rfl ca42 rfl (fun w' _ => lower_c w' (s.take 7) (by omega)) ?_
    refine RW.guardT rfl rfl h10 ?_
    refine RW.neqS rfl rfl rfl ?_
    refine RW.pickC rfl rfl h10 rfl ?_
    refine RW.nil (EX.seq ?_)
    -- mq: cond
    first | refine CW.condD rfl (fun h15 => ?_) (fun h15 => ?_) | refine CW.cond rfl (fun h15 => ?_) (fun h15 => ?_)
    · skip
      refine CW.seq (CW.region ?_)
      refine RW.assign rfl rfl ?_
      refine RW.assign rfl rfl ?_
      refine RW.assign rfl rfl ?_
      refine RW.nil (EX.seq (CW.ret (EX.seqR ?_)))
      refine EX.fin3 Tryd.results23 rfl rfl rfl (fun wz hw => ?_)
      -- mq: done
      exact ⟨by rw [fileV, fileL, if_neg (by rintro ⟨_, h⟩; exact h15 (by simpa [schemeL] using h))], hw.ext⟩
    · skip
      have hlow : lowL (s.take 7) = schemeL := by simpa [schemeL] using h15
      refine CW.skip (EX.seq (CW.seq (CW.region ?_)))
      refine RW.move rfl rfl ?_
      refine RW.sliceStrL 7 Tryd.underlying9 rfl rfl rfl (by first | rfl | omega) (by first | omega | (simp; done) | (simp; omega)) ?_
      refine RW.assign rfl rfl ?_
      refine RW.nil (EX.seq (CW.seq (CW.region ?_)))
      refine RW.move rfl rfl ?_
      -- mq: op 1: ('Op.call', ('Call.mk', ('Callee.value', ('Operand.func', '43')), ('arr', ('Operand.tmp', '18'), ('Operand.const', ('Value.int', 'IntKind.u8', '47'))), ('arr', '9', '5'))) -> slot 19 ("pct.go:116")
      refine RW.callP rfl ca43 rfl (fun w' _ => IndexByte_c w' (s.drop 7) 47) ?_
      refine RW.assign rfl rfl ?_
      refine RW.nil (EX.seq (CW.seq (CW.seq (CW.region ?_))))
      refine RW.move rfl rfl ?_
      refine RW.lss rfl rfl rfl ?_
      refine RW.nil (EX.seq ?_)
      -- mq: cond
      first | refine CW.condD rfl (fun h21 => ?_) (fun h21 => ?_) | refine CW.cond rfl (fun h21 => ?_) (fun h21 => ?_)
      · skip
        refine CW.seq (CW.region ?_)
        refine RW.assign rfl rfl ?_
        refine RW.assign rfl rfl ?_
        refine RW.assign rfl rfl ?_
        refine RW.nil (EX.seq (CW.ret (EX.seqR ?_)))
        refine EX.fin3 Tryd.results23 rfl rfl rfl (fun wz hw => ?_)
        -- mq: done
        exact ⟨by rw [fileV, fileL, if_pos ⟨by omega, hlow⟩, if_pos h21], hw.ext⟩
      · skip
        rcases ib_cases (s.drop 7) 47 with ⟨_, h⟩ | ⟨pre, post, hpp, hpre, hib⟩
        · omega
        have hk : pre.length ≤ (s.drop 7).length := by rw [hpp]; simp
        have hdl : (s.drop 7).length ≤ 1000000 := by rw [List.length_drop]; omega
        rw [hib]
        refine CW.skip (EX.seq (CW.seq ?_))
        refine CW.drawq mixed (by kernel_rfl) (fun _ hw => hw.drew) ?_
        refine DRq.cons rfl (RW.move rfl rfl RW.jn) ?_
        refine DRq.cons rfl (RW.move rfl rfl RW.jn) ?_
        refine DRq.cons rfl (RW.sliceStrH pre.length Tryd.underlying9 rfl rfl rfl (by first | rfl | omega) (by first | omega | (simp; done) | (simp; omega)) RW.jn) ?_
        refine DRq.cons rfl (RW.move rfl rfl RW.jn) ?_
        refine DRq.cons rfl (RW.move rfl rfl RW.jn) ?_
        refine DRq.cons rfl (RW.sliceStrL pre.length Tryd.underlying9 rfl rfl rfl (by first | rfl | omega) (by first | omega | (simp; done) | (simp; omega)) RW.jn) ?_
        refine DRq.cons rfl (RW.call rfl ca44 rfl (fun w' _ => Take_c w' ((s.drop 7).drop pre.length) (by rw [List.length_drop]; omega)) RW.jn) ?_
        refine DRq.cons rfl (RW.assign rfl rfl RW.jn) ?_
        refine DRq.cons rfl (RW.assign rfl rfl RW.jn) ?_
        refine DRq.cons rfl (RW.assign rfl rfl RW.jn) ?_
        refine DRq.nil (EX.seq (CW.ret ?_))
        refine EX.fin3 Tryd.results23 rfl rfl rfl (fun wz hw => ?_)
        -- mq: done
        refine ⟨?_, hw.ext⟩
        rw [fileV, fileL, if_pos ⟨by omega, hlow⟩, if_neg h21, hib]
        rfl
def hasP (s t : List UInt8) : Bool := decide (t.length ≤ s.length) && decide (s.take t.length = t)
theorem caHP : CaT Tryd.prog 52 := CaT.of Tryd.func52 (by kernel_rfl) (by kernel_rfl)
theorem slHasPrefix_c (w : World) (s t : List UInt8) :
    Calls Tryd.prog 52 [.string (bs s), .string (bs t)].toArray w (fun e w' => e = .returned (.bool (hasP s t)) ∧ w' = w) := by
  refine calls (n := 18) Tryd.func52 rfl Tryd.ntmps52 rfl ?_
  refine CW.seq (CW.region ?_)
  refine RW.assign rfl rfl ?_
  refine RW.nil (EX.seq (CW.seq (CW.region ?_)))
  refine RW.move rfl rfl ?_
  refine RW.lenS Tryd.underlying9 rfl rfl ?_
  refine RW.move rfl rfl ?_
  refine RW.lenS Tryd.underlying9 rfl rfl ?_
  refine RW.geq rfl rfl rfl ?_
  refine RW.move rfl rfl ?_
  -- mq: guard slot 10
  refine RW.casesB 10 rfl (fun h10 => ?_) (fun h10 => ?_)
  · skip
    have h10p := of_decide_eq_true h10
    refine RW.guardT rfl rfl h10 ?_
    refine RW.move rfl rfl ?_
    refine RW.guardT rfl rfl h10 ?_
    refine RW.move rfl rfl ?_
    refine RW.guardT rfl rfl h10 ?_
    refine RW.lenS Tryd.underlying9 rfl rfl ?_
    refine RW.guardT rfl rfl h10 ?_
    refine RW.sliceStrH t.length Tryd.underlying9 rfl rfl rfl (by first | rfl | omega) (by first | omega | (simp; done) | (simp; omega)) ?_
    refine RW.guardT rfl rfl h10 ?_
    refine RW.move rfl rfl ?_
    refine RW.guardT rfl rfl h10 ?_
    refine RW.eqlS rfl rfl rfl ?_
    refine RW.pickB rfl rfl h10 rfl ?_
    refine RW.assign rfl rfl ?_
    refine RW.nil (EX.seq (CW.ret ?_))
    refine EX.fin1 Tryd.results52 rfl (fun wz hw => ?_)
    -- mq: done
    exact ⟨by rw [hasP, decide_eq_true (by omega : t.length ≤ s.length), Bool.true_and], hw⟩
  · skip
    have h10p := of_decide_eq_false h10
    refine RW.guardF rfl rfl rfl h10 ?_
    refine RW.guardF rfl rfl rfl h10 ?_
    refine RW.guardF rfl rfl rfl h10 ?_
    refine RW.guardF rfl rfl rfl h10 ?_
    refine RW.guardF rfl rfl rfl h10 ?_
    refine RW.guardF rfl rfl rfl h10 ?_
    refine RW.pickC rfl rfl h10 rfl ?_
    refine RW.assign rfl rfl ?_
    refine RW.nil (EX.seq (CW.ret ?_))
    refine EX.fin1 Tryd.results52 rfl (fun wz hw => ?_)
    -- mq: done
    exact ⟨by rw [hasP, decide_eq_false (by omega : ¬ t.length ≤ s.length), Bool.false_and], hw⟩
theorem HasPrefix_c (w : World) (s t : List UInt8) :
    Calls Tryd.prog 34 [.string (bs s), .string (bs t)].toArray w (fun e w' => e = .returned (.bool (hasP s t)) ∧ w' = w) := by
  refine calls (n := 8) Tryd.func34 rfl Tryd.ntmps34 rfl ?_
  refine CW.seq (CW.region ?_)
  refine RW.assign rfl rfl ?_
  refine RW.nil (EX.seq (CW.seq (CW.region ?_)))
  refine RW.move rfl rfl ?_
  refine RW.move rfl rfl ?_
  -- mq: op 2: ('Op.call', ('Call.mk', ('Callee.value', ('Operand.func', '52')), ('arr', ('Operand.tmp', '5'), ('Operand.tmp', '6')), ('arr', '9', '9'))) -> slot 7 ("strings.go:502")
  refine RW.callP rfl caHP rfl (fun w' _ => slHasPrefix_c w' s t) ?_
  refine RW.assign rfl rfl ?_
  refine RW.nil (EX.seq (CW.ret ?_))
  refine EX.fin1 Tryd.results34 rfl (fun wz hw => ?_)
  -- mq: done
  exact ⟨rfl, hw⟩
theorem hasP_one (p : List UInt8) : hasP p [47] = true ↔ p.head? = some 47 := by
  unfold hasP
  cases p with
  | nil => simp
  | cons c p => simp
def rightB (h p : List UInt8) : Bool := decide (p.head? = some 47) && decide (47 ∉ h)
def makeV (h p : List UInt8) : Value := if rightB h p = true then .tuple #[.string (bs (schemeL ++ h ++ layL p)), .int .i64 0] else .tuple #[.string (bs []), .int .i64 4]
end Go.Proofs.YtemcblinkicblaaDoor.Mq

namespace Go.Proofs.YtemcblinkicblaaDoor.Mq
open Go Go.RowKit Go.Proofs

def letters : List UInt8 := [97, 98, 99, 100, 101, 102, 103, 104, 105, 106, 107, 108, 109, 110, 111, 112, 113, 114, 115, 116, 117, 118, 119, 120, 121, 122, 65, 66, 67, 68, 69, 70, 71, 72, 73, 74, 75, 76, 77, 78, 79, 80, 81, 82, 83, 84, 85, 86, 87, 88, 89, 90, 48, 49, 50, 51, 52, 53, 54, 55, 56, 57, 45, 46, 95, 126, 47]
def hexs : List UInt8 := [48, 49, 50, 51, 52, 53, 54, 55, 56, 57, 97, 98, 99, 100, 101, 102, 48, 49, 50, 51, 52, 53, 54, 55, 56, 57, 65, 66, 67, 68, 69, 70]
set_option maxRecDepth 100000 in
theorem plain_letters : ∀ c : UInt8, plainB c = letters.contains c := by
  refine all_bytes ?_
  decide
set_option maxRecDepth 100000 in
theorem hexI_none : ∀ c : UInt8, hexs.contains c = false → hexI c = -1 := by
  refine all_bytes ?_
  decide
theorem hexI_at : ∀ i : _root_.Fin 32, hexI (hexs.getD i.val 0) = ((i.val % 16 : Nat) : Int) := by decide
theorem not_in {l : List UInt8} {c : UInt8} {k : Nat} (hk : l.length ≤ k) (h : ∀ j, j < k → l[j]? ≠ some c) : l.contains c = false := by
  cases hc : l.contains c with
  | false => rfl
  | true =>
    exfalso
    obtain ⟨j, hj, he⟩ := List.getElem_of_mem (List.contains_iff_mem.1 hc)
    exact h j (by omega) (by rw [List.getElem?_eq_getElem hj, he])
theorem digit_c (w : World) (c : UInt8) :
    Calls Tryd.prog 62 [.int .u8 (c.toNat : Int)].toArray w (fun e w' => e = .returned (.int .i64 (hexI c)) ∧ w' = w) := by
  have hL : hexs.length = 32 := rfl
  refine calls (n := 18) Tryd.func62 rfl Tryd.ntmps62 rfl ?_
  refine CW.seq (CW.region ?_)
  refine RW.assign rfl rfl ?_
  refine RW.nil (EX.seq (CW.seq (CW.region ?_)))
  refine RW.assign rfl rfl ?_
  refine RW.nil (EX.seq (CW.seq (CW.seq (CW.region ?_))))
  refine RW.assign rfl rfl ?_
  refine RW.nil (EX.seq (CW.block ?_))
  -- mq: loop
  refine CW.loop (ι := Nat) (fun k => [(0, .int .u8 (c.toNat : Int)), (3, .string (bs hexs)), (4, .int .i64 (k : Int))]) (fun _ x => x = w) (fun k => k ≤ 32 ∧ ∀ j, j < k → hexs[j]? ≠ some c) (fun k => 32 - k) ?_ ?_
  · exact fun w' hw' => ⟨0, ⟨Nat.zero_le _, fun j hj => absurd hj (by omega)⟩, (by repeat (first | exact Sub.nil | refine Sub.cons (by rfl) ?_)), hw'⟩
  · rintro k ⟨hk, hno⟩
    refine CW.seq (CW.seq (CW.region ?_))
    refine RW.move rfl rfl ?_
    refine RW.move rfl rfl ?_
    refine RW.lenS Tryd.underlying9 rfl rfl ?_
    refine RW.lss rfl rfl rfl ?_
    refine RW.nil (EX.seq ?_)
    -- mq: cond
    first | refine CW.condD rfl (fun hlt => ?_) (fun hlt => ?_) | refine CW.cond rfl (fun hlt => ?_) (fun hlt => ?_)
    · skip
      obtain ⟨x, hx⟩ : ∃ x, hexs[k]? = some x := ⟨hexs[k]'(by omega), List.getElem?_eq_getElem _⟩
      refine CW.skip (EX.seq (CW.seq (CW.block (CW.seq (CW.region ?_)))))
      refine RW.move rfl rfl ?_
      refine RW.move rfl rfl ?_
      refine RW.ixStr (q := k) Tryd.underlying9 rfl rfl rfl (by omega) hx ?_
      refine RW.move rfl rfl ?_
      refine RW.eqlI rfl rfl rfl ?_
      refine RW.nil (EX.seq ?_)
      -- mq: cond
      first | refine CW.condD rfl (fun h15 => ?_) (fun h15 => ?_) | refine CW.cond rfl (fun h15 => ?_) (fun h15 => ?_)
      · skip
        have hxc : x = c := UInt8.toNat_inj.1 (by omega)
        subst hxc
        refine CW.seq (CW.region ?_)
        refine RW.move rfl rfl ?_
        refine RW.remN rfl rfl rfl (by omega) (by omega) ?_
        refine RW.assign rfl rfl ?_
        refine RW.nil (EX.seq (CW.ret (EX.bkR (EX.seqR (EX.lpR (EX.bkR (EX.seqR ?_)))))))
        refine EX.fin1 Tryd.results62 rfl (fun wz hw => ?_)
        -- mq: done
        have := hexI_at ⟨k, by omega⟩
        have hg : hexs.getD k 0 = x := by simp [List.getD, hx]
        dsimp only at this
        rw [hg] at this
        exact ⟨by rw [this]; simp, hw⟩
      · skip
        refine CW.skip (EX.bkN (EX.seq (CW.region ?_)))
        refine RW.move rfl rfl ?_
        refine RW.add rfl rfl rfl (wrap64 (by omega) (by omega)) ?_
        refine RW.assign rfl rfl ?_
        refine RW.nil ?_
        -- mq: loopend
        refine EX.lpN (k + 1) ⟨by omega, fun j hj e => ?_⟩ (by omega) (by repeat (first | exact Sub.nil | refine Sub.cons (by rfl) ?_)) (fun w' hw' => hw')
        by_cases hjk : j = k
        · subst hjk
          rw [hx] at e
          simp only [Option.some.injEq] at e
          exact h15 (by rw [e])
        · exact hno j (by omega) e
    · skip
      refine CW.exit (EX.seqE (EX.lpE (EX.bkE (EX.seq (CW.seq (CW.region ?_))))))
      refine RW.assign rfl rfl ?_
      refine RW.nil (EX.seq (CW.ret ?_))
      refine EX.fin1 Tryd.results62 rfl (fun wz hw => ?_)
      -- mq: done
      exact ⟨by rw [hexI_none c (not_in (by omega) hno)], hw⟩
end Go.Proofs.YtemcblinkicblaaDoor.Mq

namespace Go.Proofs.YtemcblinkicblaaDoor.Mq
open Go Go.RowKit Go.Proofs

/-- does a text begin with a % and its digits? -/
def hit : List UInt8 → Bool
  | c :: a :: b :: _ => decide (c = 37) && (decide (0 ≤ hexI a) && decide (0 ≤ hexI b))
  | _ => false
theorem hit_true {s : List UInt8} (h : hit s = true) : ∃ a b t, s = 37 :: a :: b :: t ∧ 0 ≤ hexI a ∧ 0 ≤ hexI b := by
  match s, h with
  | c :: a :: b :: t, h =>
    simp only [hit, Bool.and_eq_true, decide_eq_true_eq] at h
    exact ⟨a, b, t, by rw [h.1], h.2.1, h.2.2⟩
theorem hit_false {c : UInt8} {t : List UInt8} (h : hit (c :: t) = false) : takeL (c :: t) = (c :: (takeL t).1, if c = 37 then false else (takeL t).2) := by
  by_cases hc : c = 37
  · subst hc
    rw [takeL_bad, if_pos rfl]
    rintro a b u rfl ⟨h1, h2⟩
    simp [hit, h1, h2] at h
  · rw [takeL_cons hc, if_neg hc]
theorem refTake_c (w : World) (s : List UInt8) (hs : s.length ≤ 1000000) :
    Calls Tryd.prog 47 [.string (bs s)].toArray w (fun e w' => e = .returned (.tuple #[.string (bs (takeL s).1), .bool (takeL s).2]) ∧ Ext [] w w') := by
  refine calls (n := 56) Tryd.func47 rfl Tryd.ntmps47 rfl ?_
  refine CW.sub (H' := SH w [] []) ?_ (Sub.refl _) (fun x hx => SH.start' _ _ hx)
  refine CW.seq (CW.region ?_)
  refine RW.assign rfl rfl ?_
  refine RW.assign rfl rfl ?_
  refine RW.nil (EX.seq (CW.seq (CW.region ?_)))
  refine RW.assign rfl rfl ?_
  refine RW.nil (EX.seq (CW.seq ?_))
  -- mq: region
  refine CW.ownNil 5 1 ?_
  refine CW.region ?_
  refine RW.assign rfl rfl ?_
  refine RW.nil (EX.seq (CW.seq (CW.block ?_)))
  -- mq: loop
  refine CW.loop (ι := List UInt8 × Value × List UInt8 × Bool) (fun t => [(0, .string (bs t.1)), (4, .bool t.2.2.2), (5, t.2.1)]) (fun t => SH w [] [own 5 1 t.2.1 t.2.2.1.length (EU8.all t.2.2.1)]) (fun t => t.2.2.1.length + t.1.length ≤ s.length ∧ takeL s = (t.2.2.1 ++ (takeL t.1).1, t.2.2.2 && (takeL t.1).2)) (fun t => t.1.length) ?_ ?_
  · exact fun w' hw' => ⟨(s, .slice none 0 0, [], true), ⟨by simp, by simp⟩, (by repeat (first | exact Sub.nil | refine Sub.cons (by rfl) ?_)), hw'⟩
  · rintro ⟨r, v, O, al⟩ ⟨hO, hspec⟩
    dsimp only at hO hspec ⊢
    refine CW.seq (CW.seq (CW.region ?_))
    refine RW.move rfl rfl ?_
    refine RW.lenS Tryd.underlying9 rfl rfl ?_
    refine RW.gtr rfl rfl rfl ?_
    refine RW.nil (EX.seq ?_)
    -- mq: cond
    first | refine CW.condD rfl (fun hlt => ?_) (fun hlt => ?_) | refine CW.cond rfl (fun hlt => ?_) (fun hlt => ?_)
    · skip
      have hsnoc : ∀ x : UInt8, EU8.all (O ++ [x]) = EU8.all O ++ EU8.enc x := fun x => Enc.all_snoc EU8 O x
      cases r with
      | nil => simp at hlt
      | cons c t =>
      simp only [List.length_cons] at hO
      refine CW.skip (EX.seq (CW.block (CW.seq (CW.seq ?_))))
      -- mq: region
      refine CW.join ([(28, .bool (hit (c :: t))), (0, .string (bs (c :: t))), (4, .bool al), (5, v)]) (SH w [] [own 5 1 v O.length (EU8.all O)]) ?_ ?_
      · skip
        refine CW.region ?_
        refine RW.move rfl rfl ?_
        refine RW.ixStr (q := 0) Tryd.underlying9 rfl rfl rfl (by rfl) (rfl : (c :: t)[0]? = some c) ?_
        refine RW.eqlI rfl rfl rfl ?_
        refine RW.move rfl rfl ?_
        -- mq: guard slot 12
        refine RW.casesB 12 rfl (fun h12 => ?_) (fun h12 => ?_)
        · skip
          have h12p := of_decide_eq_true h12
          have hc37 : c = 37 := UInt8.toNat_inj.1 (by have : (37 : UInt8).toNat = 37 := rfl; omega)
          subst hc37
          refine RW.guardT rfl rfl h12 ?_
          refine RW.move rfl rfl ?_
          refine RW.guardT rfl rfl h12 ?_
          refine RW.lenS Tryd.underlying9 rfl rfl ?_
          refine RW.guardT rfl rfl h12 ?_
          refine RW.gtr rfl rfl rfl ?_
          refine RW.pickB rfl rfl h12 rfl ?_
          refine RW.move rfl rfl ?_
          -- mq: guard slot 17
          refine RW.casesB 17 rfl (fun h17 => ?_) (fun h17 => ?_)
          · skip
            have h17p := of_decide_eq_true h17
            match t, h17p with
            | a :: b :: u, h17p =>
              refine RW.guardT rfl rfl h17 ?_
              refine RW.move rfl rfl ?_
              refine RW.guardT rfl rfl h17 ?_
              refine RW.ixStr (q := 1) Tryd.underlying9 rfl rfl rfl (by rfl) (rfl : (37 :: a :: b :: u)[1]? = some a) ?_
              refine RW.guardT rfl rfl h17 ?_
              -- mq: op 11: ('Op.call', ('Call.mk', ('Callee.value', ('Operand.func', '62')), ('arr', ('Operand.tmp', '19')), ('arr', '5'))) -> slot 20 ("ref.go:46")
              refine RW.callP rfl ca62 rfl (fun w' _ => digit_c w' a) ?_
              refine RW.guardT rfl rfl h17 ?_
              refine RW.geq rfl rfl rfl ?_
              refine RW.pickB rfl rfl h17 rfl ?_
              refine RW.move rfl rfl ?_
              -- mq: guard slot 23
              refine RW.casesB 23 rfl (fun h23 => ?_) (fun h23 => ?_)
              · skip
                have h23p := of_decide_eq_true h23
                refine RW.guardT rfl rfl h23 ?_
                refine RW.move rfl rfl ?_
                refine RW.guardT rfl rfl h23 ?_
                refine RW.ixStr (q := 2) Tryd.underlying9 rfl rfl rfl (by rfl) (rfl : (37 :: a :: b :: u)[2]? = some b) ?_
                refine RW.guardT rfl rfl h23 ?_
                -- mq: op 17: ('Op.call', ('Call.mk', ('Callee.value', ('Operand.func', '62')), ('arr', ('Operand.tmp', '25')), ('arr', '5'))) -> slot 26 ("ref.go:46")
                refine RW.callP rfl ca62 rfl (fun w' _ => digit_c w' b) ?_
                refine RW.guardT rfl rfl h23 ?_
                refine RW.geq rfl rfl rfl ?_
                refine RW.pickB rfl rfl h23 rfl ?_
                refine RW.nil ?_
                -- mq: joinend
                exact EX.jn (Sub.cons (congrArg (fun x => some (Value.bool x)) (by simp [hit, h23p])) (by repeat (first | exact Sub.nil | refine Sub.cons (by rfl) ?_))) (fun _ h => h)
              · skip
                have h23p := of_decide_eq_false h23
                refine RW.guardF rfl rfl rfl h23 ?_
                refine RW.guardF rfl rfl rfl h23 ?_
                refine RW.guardF rfl rfl rfl h23 ?_
                refine RW.guardF rfl rfl rfl h23 ?_
                refine RW.pickC rfl rfl h23 rfl ?_
                refine RW.nil ?_
                -- mq: joinend
                exact EX.jn (Sub.cons (congrArg (fun x => some (Value.bool x)) (by simp [hit, h23p])) (by repeat (first | exact Sub.nil | refine Sub.cons (by rfl) ?_))) (fun _ h => h)
            | [], h17p => simp at h17p
            | [a], h17p => simp at h17p
          · skip
            have h17p := of_decide_eq_false h17
            refine RW.guardF rfl rfl rfl h17 ?_
            refine RW.guardF rfl rfl rfl h17 ?_
            refine RW.guardF rfl rfl rfl h17 ?_
            refine RW.guardF rfl rfl rfl h17 ?_
            refine RW.pickC rfl rfl h17 rfl ?_
            refine RW.move rfl rfl ?_
            refine RW.guardF rfl rfl rfl rfl ?_
            refine RW.guardF rfl rfl rfl rfl ?_
            refine RW.guardF rfl rfl rfl rfl ?_
            refine RW.guardF rfl rfl rfl rfl ?_
            refine RW.pickC rfl rfl rfl rfl ?_
            refine RW.nil ?_
            -- mq: joinend
            have : hit (37 :: t) = false := by
              match t, h17p with
              | [], _ => rfl
              | [a], _ => rfl
              | a :: b :: u, h17p => exact absurd (show (2 : Int) < (((37 : UInt8) :: a :: b :: u).length : Int) by simp only [List.length_cons]; omega) h17p
            rw [this]
            exact EX.jn (by repeat (first | exact Sub.nil | refine Sub.cons (by rfl) ?_)) (fun _ h => h)
        · skip
          have h12p := of_decide_eq_false h12
          refine RW.guardF rfl rfl rfl h12 ?_
          refine RW.guardF rfl rfl rfl h12 ?_
          refine RW.guardF rfl rfl rfl h12 ?_
          refine RW.pickC rfl rfl h12 rfl ?_
          refine RW.move rfl rfl ?_
          refine RW.guardF rfl rfl rfl rfl ?_
          refine RW.guardF rfl rfl rfl rfl ?_
          refine RW.guardF rfl rfl rfl rfl ?_
          refine RW.guardF rfl rfl rfl rfl ?_
          refine RW.pickC rfl rfl rfl rfl ?_
          refine RW.move rfl rfl ?_
          refine RW.guardF rfl rfl rfl rfl ?_
          refine RW.guardF rfl rfl rfl rfl ?_
          refine RW.guardF rfl rfl rfl rfl ?_
          refine RW.guardF rfl rfl rfl rfl ?_
          refine RW.pickC rfl rfl rfl rfl ?_
          refine RW.nil ?_
          -- mq: joinend
          have : hit (c :: t) = false := by
            match t with
            | [] => rfl
            | [a] => rfl
            | a :: b :: u =>
              have hc : c ≠ 37 := fun e => h12p (by rw [e]; rfl)
              simp [hit, hc]
          rw [this]
          exact EX.jn (by repeat (first | exact Sub.nil | refine Sub.cons (by rfl) ?_)) (fun _ h => h)
      · skip
        refine EX.seq ?_
        -- mq: cond
        first | refine CW.condD rfl (fun h28 => ?_) (fun h28 => ?_) | refine CW.cond rfl (fun h28 => ?_) (fun h28 => ?_)
        · skip
          obtain ⟨a, b, u, he, ha, hb⟩ := hit_true h28
          simp only [List.cons.injEq] at he
          obtain ⟨rfl, rfl⟩ := he
          have hra := hexI_range a
          have hrb := hexI_range b
          have htwo : ((twoU a b).toNat : Int) = 16 * hexI a + hexI b := by
            rw [twoU, UInt8.toNat_ofNat']
            omega
          rw [takeL_hex ha hb] at hspec
          refine CW.seq ?_
          -- mq: region
          refine CW.drawS [true, true, true, true, true, true, true, true, true, true, false, false, false] 1 (SH w [] [own 5 1 v O.length (EU8.all O)]) mixed (by kernel_rfl) (fun _ hw => hw.drew) (fun _ h => by first | exact h | (have h1 := h.rem Rem.head; first | exact h1 | (have h2 := h1.rem Rem.head; first | exact h2 | (have h3 := h2.rem Rem.head; exact h3)))) (by repeat (first | exact NoP.fin | exact NoP.jn | refine NoP.sq ?_ | refine NoP.bk ?_ | refine NoP.lp ?_)) ?_
          refine QuW.cons rfl (fun wq hq => (RW.move rfl rfl RW.jn)) ?_
          refine QuW.cons rfl (fun wq hq => (RW.move rfl rfl RW.jn)) ?_
          refine QuW.cons rfl (fun wq hq => (RW.ixStr (q := 1) Tryd.underlying9 rfl rfl rfl (by rfl) (rfl : (37 :: a :: b :: u)[1]? = some a) RW.jn)) ?_
          refine QuW.cons rfl (fun wq hq => (RW.callP rfl ca62 rfl (fun w' _ => digit_c w' a) RW.jn)) ?_
          refine QuW.cons rfl (fun wq hq => (RW.mul rfl rfl rfl (wrap64 (by omega) (by omega)) RW.jn)) ?_
          refine QuW.cons rfl (fun wq hq => (RW.move rfl rfl RW.jn)) ?_
          refine QuW.cons rfl (fun wq hq => (RW.ixStr (q := 2) Tryd.underlying9 rfl rfl rfl (by rfl) (rfl : (37 :: a :: b :: u)[2]? = some b) RW.jn)) ?_
          refine QuW.cons rfl (fun wq hq => (RW.callP rfl ca62 rfl (fun w' _ => digit_c w' b) RW.jn)) ?_
          refine QuW.cons rfl (fun wq hq => (RW.add rfl rfl rfl (wrap64 (by omega) (by omega)) RW.jn)) ?_
          refine QuW.cons rfl (fun wq hq => (RW.convI rfl rfl Tryd.underlying3 Tryd.underlying5 (r := ((twoU a b).toNat : Int)) (by rw [wrapN8 (by omega) (by omega)]; omega) RW.jn)) ?_
          refine QuW.skip ?_
          refine QuW.skip ?_
          refine QuW.skip ?_
          refine QuW.nil ?_
          refine SpW.soft ?_
          refine RW.buildSlc sl56 rfl rfl rfl rfl (fun g39 hg39 hf39 => ?_)
          refine RW.sp1 (fun _ h => by first | exact h | (have h1 := h.rem Rem.head; first | exact h1 | (have h2 := h1.rem Rem.head; first | exact h2 | (have h3 := h2.rem Rem.head; exact h3)))) ?_
          refine SpW.hard ?_
          refine RW.append1 sl56 rfl rfl rfl (by first | exact Rem.head | exact Rem.tail Rem.head | exact Rem.tail (Rem.tail Rem.head) | exact Rem.tail (Rem.tail (Rem.tail Rem.head)) | exact Rem.tail (Rem.tail (Rem.tail (Rem.tail Rem.head))) | exact Rem.tail (Rem.tail (Rem.tail (Rem.tail (Rem.tail Rem.head)))) | exact Rem.tail (Rem.tail (Rem.tail (Rem.tail (Rem.tail (Rem.tail Rem.head)))))) (fun _ => by first | exact Upd.head | exact Upd.tail Upd.head | exact Upd.tail (Upd.tail Upd.head) | exact Upd.tail (Upd.tail (Upd.tail Upd.head)) | exact Upd.tail (Upd.tail (Upd.tail (Upd.tail Upd.head))) | exact Upd.tail (Upd.tail (Upd.tail (Upd.tail (Upd.tail Upd.head)))) | exact Upd.tail (Upd.tail (Upd.tail (Upd.tail (Upd.tail (Upd.tail Upd.head)))))) rfl (by repeat (first | exact Ones.nil | exact Enc.ones _ _ | refine Ones.cons rfl ?_)) (by simp only [maxLen]; omega) (by omega) (fun v40 hv40 => ?_)
          refine RW.assign rfl rfl ?_
          refine RW.nil (EX.seq (CW.seq (CW.region ?_)))
          refine RW.move rfl rfl ?_
          refine RW.sliceStrL (3) Tryd.underlying9 rfl rfl rfl (by first | rfl | omega) (by first | omega | (simp; done) | (simp; omega)) ?_
          refine RW.assign rfl rfl ?_
          refine RW.nil (EX.seq (CW.exit (EX.seqE (EX.bkE ?_))))
          -- mq: loopend
          refine EX.lpN (u, v40, O ++ [twoU a b], al) ⟨by simp only [List.length_append, List.length_cons, List.length_nil] at hO ⊢; omega, by rw [hspec]; simp⟩ (by simp only [List.length_cons]; omega) (Sub.cons (by simp [look]) (by repeat (first | exact Sub.nil | refine Sub.cons (by rfl) ?_))) (fun w' hw' => ?_)
          dsimp only
          rw [hsnoc, List.length_append]
          exact hw'
        · skip
          rw [hit_false h28] at hspec
          refine CW.skip (EX.seq (CW.seq (CW.seq (CW.region ?_))))
          refine RW.move rfl rfl ?_
          refine RW.ixStr (q := 0) Tryd.underlying9 rfl rfl rfl (by rfl) (rfl : (c :: t)[0]? = some c) ?_
          refine RW.eqlI rfl rfl rfl ?_
          refine RW.nil (EX.seq ?_)
          -- mq: cond
          first | refine CW.condD rfl (fun h45 => ?_) (fun h45 => ?_) | refine CW.cond rfl (fun h45 => ?_) (fun h45 => ?_)
          · skip
            have hc37 : c = 37 := UInt8.toNat_inj.1 (by have : (37 : UInt8).toNat = 37 := rfl; omega)
            subst hc37
            rw [if_pos rfl] at hspec
            refine CW.region ?_
            refine RW.assign rfl rfl ?_
            refine RW.nil (EX.seq (CW.seq (CW.region ?_)))
            refine RW.move rfl rfl ?_
            refine RW.move rfl rfl ?_
            refine RW.ixStr (q := 0) Tryd.underlying9 rfl rfl rfl (by rfl) (rfl : (37 :: t)[0]? = some 37) ?_
            refine RW.buildSlc sl56 rfl rfl rfl rfl (fun g49 hg49 hf49 => ?_)
            refine RW.append1 sl56 rfl rfl rfl (by first | exact Rem.head | exact Rem.tail Rem.head | exact Rem.tail (Rem.tail Rem.head) | exact Rem.tail (Rem.tail (Rem.tail Rem.head)) | exact Rem.tail (Rem.tail (Rem.tail (Rem.tail Rem.head))) | exact Rem.tail (Rem.tail (Rem.tail (Rem.tail (Rem.tail Rem.head)))) | exact Rem.tail (Rem.tail (Rem.tail (Rem.tail (Rem.tail (Rem.tail Rem.head)))))) (fun _ => by first | exact Upd.head | exact Upd.tail Upd.head | exact Upd.tail (Upd.tail Upd.head) | exact Upd.tail (Upd.tail (Upd.tail Upd.head)) | exact Upd.tail (Upd.tail (Upd.tail (Upd.tail Upd.head))) | exact Upd.tail (Upd.tail (Upd.tail (Upd.tail (Upd.tail Upd.head)))) | exact Upd.tail (Upd.tail (Upd.tail (Upd.tail (Upd.tail (Upd.tail Upd.head)))))) rfl (by repeat (first | exact Ones.nil | exact Enc.ones _ _ | refine Ones.cons rfl ?_)) (by simp only [maxLen]; omega) (by omega) (fun v50 hv50 => ?_)
            refine RW.assign rfl rfl ?_
            refine RW.nil (EX.seq ?_)
            -- mq: region
            refine CW.region ?_
            refine RW.move rfl rfl ?_
            refine RW.sliceStrL (1) Tryd.underlying9 rfl rfl rfl (by first | rfl | omega) (by first | omega | (simp; done) | (simp; omega)) ?_
            refine RW.assign rfl rfl ?_
            refine RW.nil (EX.bkN ?_)
            -- mq: loopend
            refine EX.lpN (t, v50, O ++ [37], false) ⟨by simp; omega, by rw [hspec]; simp⟩ (by simp) (Sub.cons (by simp [look]) (by repeat (first | exact Sub.nil | refine Sub.cons (by rfl) ?_))) (fun w' hw' => ?_)
            dsimp only
            rw [hsnoc, List.length_append]
            exact hw'
          · skip
            have hc37 : c ≠ 37 := fun e => h45 (by rw [e]; rfl)
            rw [if_neg hc37] at hspec
            refine CW.skip (EX.seq (CW.seq (CW.region ?_)))
            refine RW.move rfl rfl ?_
            refine RW.move rfl rfl ?_
            refine RW.ixStr (q := 0) Tryd.underlying9 rfl rfl rfl (by rfl) (rfl : (c :: t)[0]? = some c) ?_
            refine RW.buildSlc sl56 rfl rfl rfl rfl (fun g49 hg49 hf49 => ?_)
            refine RW.append1 sl56 rfl rfl rfl (by first | exact Rem.head | exact Rem.tail Rem.head | exact Rem.tail (Rem.tail Rem.head) | exact Rem.tail (Rem.tail (Rem.tail Rem.head)) | exact Rem.tail (Rem.tail (Rem.tail (Rem.tail Rem.head))) | exact Rem.tail (Rem.tail (Rem.tail (Rem.tail (Rem.tail Rem.head)))) | exact Rem.tail (Rem.tail (Rem.tail (Rem.tail (Rem.tail (Rem.tail Rem.head)))))) (fun _ => by first | exact Upd.head | exact Upd.tail Upd.head | exact Upd.tail (Upd.tail Upd.head) | exact Upd.tail (Upd.tail (Upd.tail Upd.head)) | exact Upd.tail (Upd.tail (Upd.tail (Upd.tail Upd.head))) | exact Upd.tail (Upd.tail (Upd.tail (Upd.tail (Upd.tail Upd.head)))) | exact Upd.tail (Upd.tail (Upd.tail (Upd.tail (Upd.tail (Upd.tail Upd.head)))))) rfl (by repeat (first | exact Ones.nil | exact Enc.ones _ _ | refine Ones.cons rfl ?_)) (by simp only [maxLen]; omega) (by omega) (fun v50 hv50 => ?_)
            refine RW.assign rfl rfl ?_
            refine RW.nil (EX.seq ?_)
            -- mq: region
            refine CW.region ?_
            refine RW.move rfl rfl ?_
            refine RW.sliceStrL (1) Tryd.underlying9 rfl rfl rfl (by first | rfl | omega) (by first | omega | (simp; done) | (simp; omega)) ?_
            refine RW.assign rfl rfl ?_
            refine RW.nil (EX.bkN ?_)
            -- mq: loopend
            refine EX.lpN (t, v50, O ++ [c], al) ⟨by simp; omega, by rw [hspec]; simp⟩ (by simp) (Sub.cons (by simp [look]) (by repeat (first | exact Sub.nil | refine Sub.cons (by rfl) ?_))) (fun w' hw' => ?_)
            dsimp only
            rw [hsnoc, List.length_append]
            exact hw'
    · skip
      have hr : r = [] := List.eq_nil_of_length_eq_zero (by omega)
      subst hr
      refine CW.formOwn (v := v) Has.head (fun A4 c4 hv4 hcap4 hmax4 hlen4 hg4 => ?_)
      subst hv4
      refine CW.exit (EX.seqE (EX.lpE (EX.bkE (EX.seq (CW.seq (CW.region ?_))))))
      refine RW.move rfl rfl ?_
      -- mq: op 1: ('Op.convert', '56', '9', ('Operand.tmp', '53')) -> slot 54 ("ref.go:57")
      refine RW.bytesStr (s := O) (F := fun k => (Value.slice A4 O.length c4).ownBlock = some k) Tryd.underlying56 Tryd.underlying5 Tryd.underlying9 rfl rfl (fun w' hw' => ?_) ?_
      · obtain ⟨A6, c6, he6, hrd6⟩ := Rd.of_own (E := EU8) (hw'.has Has.head) rfl
        cases he6
        exact hrd6
      refine RW.move rfl rfl ?_
      refine RW.assign rfl rfl ?_
      refine RW.assign rfl rfl ?_
      refine RW.nil (EX.seq (CW.ret ?_))
      refine EX.fin2 Tryd.results47 rfl rfl (fun wz hw => ?_)
      -- mq: done
      refine ⟨?_, hw.ext⟩
      rw [hspec]
      simp [takeL]
/-- the scheme, letter by letter -/
theorem low_all {s : List UInt8} (h7 : 7 ≤ s.length) : lowL (s.take 7) = schemeL ↔ ∀ (k : Nat) (c : UInt8), k < 7 → s[k]? = some c → (c = schemeL.getD k 0 ∨ c = schemeU.getD k 0) := by
  have hlen : (lowL (s.take 7)).length = 7 := by rw [lowL, List.length_map, List.length_take]; omega
  constructor
  · intro h k c hk hc
    have h1 := low_char ⟨k, hk⟩ c
    dsimp only at h1
    refine h1.1 ?_
    have h2 : (lowL (s.take 7))[k]? = some (lowB c) := by rw [lowL, List.getElem?_map, List.getElem?_take, if_pos hk, hc]; rfl
    rw [h] at h2
    rw [List.getD, h2]; rfl
  · intro h
    apply List.ext_getElem?
    intro k
    rcases Nat.lt_or_ge k 7 with hk | hk
    · obtain ⟨c, hc⟩ : ∃ c, s[k]? = some c := ⟨s[k]'(by omega), List.getElem?_eq_getElem _⟩
      have h1 := (low_char ⟨k, hk⟩ c).2 (h k c hk hc)
      dsimp only at h1
      rw [lowL, List.getElem?_map, List.getElem?_take, if_pos hk, hc, Option.map_some, h1]
      have hl : k < schemeL.length := hk
      rw [List.getD, List.getElem?_eq_getElem hl]; rfl
    · rw [List.getElem?_eq_none (by omega), List.getElem?_eq_none (by show 7 ≤ k; omega)]
def fileR (s : List UInt8) : Value := match fileL s with
  | some p => .tuple #[.string (bs p.1), .string (bs p.2), .bool true]
  | none => .tuple #[.string (bs []), .string (bs []), .bool false]
theorem refFile_c (w : World) (s : List UInt8) (hs : s.length ≤ 1000000) :
    Calls Tryd.prog 29 [.string (bs s)].toArray w (fun e w' => e = .returned (fileR s) ∧ Ext [] w w') := by
  refine calls (n := 55) Tryd.func29 rfl Tryd.ntmps29 rfl ?_
  refine CW.sub (H' := SH w [] []) ?_ (Sub.refl _) (fun x hx => SH.start' _ _ hx)
  refine CW.seq (CW.region ?_)
  refine RW.assign rfl rfl ?_
  refine RW.assign rfl rfl ?_
  refine RW.assign rfl rfl ?_
  refine RW.nil (EX.seq (CW.seq (CW.region ?_)))
  refine RW.assign rfl rfl ?_
  refine RW.assign rfl rfl ?_
  refine RW.nil (EX.seq (CW.seq (CW.seq (CW.region ?_))))
  refine RW.move rfl rfl ?_
  refine RW.lenS Tryd.underlying9 rfl rfl ?_
  refine RW.lss rfl rfl rfl ?_
  refine RW.nil (EX.seq ?_)
  -- mq: cond
  first | refine CW.condD rfl (fun h13 => ?_) (fun h13 => ?_) | refine CW.cond rfl (fun h13 => ?_) (fun h13 => ?_)
  · skip
    refine CW.seq (CW.region ?_)
    refine RW.assign rfl rfl ?_
    refine RW.assign rfl rfl ?_
    refine RW.assign rfl rfl ?_
    refine RW.nil (EX.seq (CW.ret (EX.seqR ?_)))
    refine EX.fin3 Tryd.results29 rfl rfl rfl (fun wz hw => ?_)
    -- mq: done
    exact ⟨by rw [fileR, fileL, if_neg (by omega)], hw.ext⟩
  · skip
    refine CW.skip (EX.seq (CW.seq (CW.seq (CW.region ?_))))
    refine RW.assign rfl rfl ?_
    refine RW.nil (EX.seq (CW.block ?_))
    -- mq: loop
    refine CW.loop (ι := Nat) (fun k => [(0, .string (bs s)), (5, .string (bs schemeL)), (6, .string (bs schemeU)), (7, .int .i64 (k : Int))]) (fun _ => SH w [] []) (fun k => k ≤ 7 ∧ ∀ (j : Nat) (c : UInt8), j < k → s[j]? = some c → (c = schemeL.getD j 0 ∨ c = schemeU.getD j 0)) (fun k => 7 - k) ?_ ?_
    · exact fun w' hw' => ⟨0, ⟨Nat.zero_le _, fun j c hj => absurd hj (by omega)⟩, (by repeat (first | exact Sub.nil | refine Sub.cons (by rfl) ?_)), hw'⟩
    · rintro k ⟨hk, hall⟩
      refine CW.seq (CW.seq (CW.region ?_))
      refine RW.move rfl rfl ?_
      refine RW.lss rfl rfl rfl ?_
      refine RW.nil (EX.seq ?_)
      -- mq: cond
      first | refine CW.condD rfl (fun hlt => ?_) (fun hlt => ?_) | refine CW.cond rfl (fun hlt => ?_) (fun hlt => ?_)
      · skip
        obtain ⟨c, hc⟩ : ∃ c, s[k]? = some c := ⟨s[k]'(by omega), List.getElem?_eq_getElem _⟩
        have hL : schemeL.length = 7 := rfl
        have hU : schemeU.length = 7 := rfl
        obtain ⟨x, hx⟩ : ∃ x, schemeL[k]? = some x := ⟨schemeL[k]'(by omega), List.getElem?_eq_getElem _⟩
        obtain ⟨y, hy⟩ : ∃ y, schemeU[k]? = some y := ⟨schemeU[k]'(by omega), List.getElem?_eq_getElem _⟩
        have gx : schemeL.getD k 0 = x := by simp [List.getD, hx]
        have gy : schemeU.getD k 0 = y := by simp [List.getD, hy]
        by_cases h1 : c = x
        · skip
          subst h1
          refine CW.skip (EX.seq (CW.seq (CW.block (CW.seq ?_))))
          refine CW.drawq mixed (by kernel_rfl) (fun _ hw => hw.drew) ?_
          refine DRq.cons rfl (RW.move rfl rfl RW.jn) ?_
          refine DRq.cons rfl (RW.move rfl rfl RW.jn) ?_
          refine DRq.cons rfl (RW.ixStr (q := k) Tryd.underlying9 rfl rfl rfl (by omega) hc RW.jn) ?_
          refine DRq.cons rfl (RW.move rfl rfl RW.jn) ?_
          refine DRq.cons rfl (RW.move rfl rfl RW.jn) ?_
          refine DRq.cons rfl (RW.ixStr (q := k) Tryd.underlying9 rfl rfl rfl (by omega) hx RW.jn) ?_
          refine DRq.cons rfl (RW.neqI rfl rfl rfl RW.jn) ?_
          refine DRq.cons rfl (RW.move rfl rfl RW.jn) ?_
          refine DRq.cons rfl (RW.guardF rfl rfl rfl (by simp) RW.jn) ?_
          refine DRq.cons rfl (RW.guardF rfl rfl rfl (by simp) RW.jn) ?_
          refine DRq.cons rfl (RW.guardF rfl rfl rfl (by simp) RW.jn) ?_
          refine DRq.cons rfl (RW.guardF rfl rfl rfl (by simp) RW.jn) ?_
          refine DRq.cons rfl (RW.guardF rfl rfl rfl (by simp) RW.jn) ?_
          refine DRq.cons rfl (RW.guardF rfl rfl rfl (by simp) RW.jn) ?_
          refine DRq.cons rfl (RW.guardF rfl rfl rfl (by simp) RW.jn) ?_
          refine DRq.cons rfl (RW.pickC rfl rfl (by simp) rfl RW.jn) ?_
          refine DRq.nil (EX.seq ?_)
          -- mq: cond
          refine CW.condF rfl (rfl) ?_
          refine CW.skip (EX.bkN (EX.seq (CW.region ?_)))
          refine RW.move rfl rfl ?_
          refine RW.add rfl rfl rfl (wrap64 (by omega) (by omega)) ?_
          refine RW.assign rfl rfl ?_
          refine RW.nil ?_
          -- mq: loopend
          refine EX.lpN (k + 1) ⟨by omega, fun j c' hj hc' => ?_⟩ (by omega) (by repeat (first | exact Sub.nil | refine Sub.cons (by rfl) ?_)) (fun w' hw' => hw')
          by_cases hjk : j = k
          · subst hjk
            rw [hc] at hc'
            simp only [Option.some.injEq] at hc'
            subst hc'
            exact .inl gx.symm
          · exact hall j c' (by omega) hc'
        · skip
          have hne : ¬ c.toNat = x.toNat := fun e => h1 (UInt8.toNat_inj.1 e)
          refine CW.skip (EX.seq (CW.seq (CW.block (CW.seq ?_))))
          refine CW.drawq mixed (by kernel_rfl) (fun _ hw => hw.drew) ?_
          refine DRq.cons rfl (RW.move rfl rfl RW.jn) ?_
          refine DRq.cons rfl (RW.move rfl rfl RW.jn) ?_
          refine DRq.cons rfl (RW.ixStr (q := k) Tryd.underlying9 rfl rfl rfl (by omega) hc RW.jn) ?_
          refine DRq.cons rfl (RW.move rfl rfl RW.jn) ?_
          refine DRq.cons rfl (RW.move rfl rfl RW.jn) ?_
          refine DRq.cons rfl (RW.ixStr (q := k) Tryd.underlying9 rfl rfl rfl (by omega) hx RW.jn) ?_
          refine DRq.cons rfl (RW.neqI rfl rfl rfl RW.jn) ?_
          refine DRq.cons rfl (RW.move rfl rfl RW.jn) ?_
          refine DRq.cons rfl (RW.guardT rfl rfl (decide_eq_true (by omega)) (RW.move rfl rfl RW.jn)) ?_
          refine DRq.cons rfl (RW.guardT rfl rfl (decide_eq_true (by omega)) (RW.move rfl rfl RW.jn)) ?_
          refine DRq.cons rfl (RW.guardT rfl rfl (decide_eq_true (by omega)) (RW.ixStr (q := k) Tryd.underlying9 rfl rfl rfl (by omega) hc RW.jn)) ?_
          refine DRq.cons rfl (RW.guardT rfl rfl (decide_eq_true (by omega)) (RW.move rfl rfl RW.jn)) ?_
          refine DRq.cons rfl (RW.guardT rfl rfl (decide_eq_true (by omega)) (RW.move rfl rfl RW.jn)) ?_
          refine DRq.cons rfl (RW.guardT rfl rfl (decide_eq_true (by omega)) (RW.ixStr (q := k) Tryd.underlying9 rfl rfl rfl (by omega) hy RW.jn)) ?_
          refine DRq.cons rfl (RW.guardT rfl rfl (decide_eq_true (by omega)) (RW.neqI rfl rfl rfl RW.jn)) ?_
          refine DRq.cons rfl (RW.pickB rfl rfl (decide_eq_true (by omega)) rfl RW.jn) ?_
          refine DRq.nil (EX.seq ?_)
          -- mq: cond
          first | refine CW.condD rfl (fun h33 => ?_) (fun h33 => ?_) | refine CW.cond rfl (fun h33 => ?_) (fun h33 => ?_)
          · skip
            have hne2 : c ≠ y := fun e => h33 (by rw [e])
            refine CW.seq (CW.region ?_)
            refine RW.assign rfl rfl ?_
            refine RW.assign rfl rfl ?_
            refine RW.assign rfl rfl ?_
            refine RW.nil (EX.seq (CW.ret (EX.bkR (EX.seqR (EX.lpR (EX.bkR (EX.seqR ?_)))))))
            refine EX.fin3 Tryd.results29 rfl rfl rfl (fun wz hw => ?_)
            -- mq: done
            refine ⟨?_, hw.ext⟩
            rw [fileR, fileL, if_neg]
            rintro ⟨h7, hlow⟩
            rcases (low_all h7).1 hlow k c (by omega) hc with h | h
            · exact h1 (h.trans gx)
            · exact hne2 (h.trans gy)
          · skip
            have he2 : c = y := UInt8.toNat_inj.1 (by omega)
            refine CW.skip (EX.bkN (EX.seq (CW.region ?_)))
            refine RW.move rfl rfl ?_
            refine RW.add rfl rfl rfl (wrap64 (by omega) (by omega)) ?_
            refine RW.assign rfl rfl ?_
            refine RW.nil ?_
            -- mq: loopend
            refine EX.lpN (k + 1) ⟨by omega, fun j c' hj hc' => ?_⟩ (by omega) (by repeat (first | exact Sub.nil | refine Sub.cons (by rfl) ?_)) (fun w' hw' => hw')
            by_cases hjk : j = k
            · subst hjk
              rw [hc] at hc'
              simp only [Option.some.injEq] at hc'
              subst hc'
              exact .inr (he2.trans gy.symm)
            · exact hall j c' (by omega) hc'
      · skip
        have hk7 : k = 7 := by omega
        subst hk7
        have hlow : lowL (s.take 7) = schemeL := (low_all (by omega)).2 (fun j c hj hc => hall j c hj hc)
        refine CW.exit (EX.seqE (EX.lpE (EX.bkE (EX.seq (CW.seq (CW.seq (CW.region ?_)))))))
        refine RW.assign rfl rfl ?_
        refine RW.nil (EX.seq (CW.block ?_))
        -- mq: loop
        refine CW.loop (ι := Nat) (fun k => [(0, .string (bs s)), (8, .int .i64 (k : Int))]) (fun _ => SH w [] []) (fun k => 7 ≤ k ∧ k ≤ s.length ∧ ∀ j, 7 ≤ j → j < k → s[j]? ≠ some 47) (fun k => s.length - k) ?_ ?_
        · exact fun w' hw' => ⟨7, ⟨Nat.le_refl _, by omega, fun j h1 h2 => absurd h2 (by omega)⟩, (by repeat (first | exact Sub.nil | refine Sub.cons (by rfl) ?_)), hw'⟩
        · rintro k ⟨hk7, hkl, hno⟩
          have hpre : 47 ∉ (s.drop 7).take (k - 7) := fun hm => by
            obtain ⟨j, hj, he⟩ := List.getElem_of_mem hm
            rw [List.length_take, List.length_drop] at hj
            refine hno (7 + j) (by omega) (by omega) ?_
            have : ((s.drop 7).take (k - 7))[j]? = some 47 := by rw [List.getElem?_eq_getElem (by rw [List.length_take, List.length_drop]; exact hj), he]
            rw [List.getElem?_take, if_pos (by omega), List.getElem?_drop] at this
            exact this
          refine CW.seq (CW.seq (CW.region ?_))
          refine RW.move rfl rfl ?_
          refine RW.move rfl rfl ?_
          refine RW.lenS Tryd.underlying9 rfl rfl ?_
          refine RW.lss rfl rfl rfl ?_
          refine RW.nil (EX.seq ?_)
          -- mq: cond
          first | refine CW.condD rfl (fun hlt => ?_) (fun hlt => ?_) | refine CW.cond rfl (fun hlt => ?_) (fun hlt => ?_)
          · skip
            obtain ⟨c, hc⟩ : ∃ c, s[k]? = some c := ⟨s[k]'(by omega), List.getElem?_eq_getElem _⟩
            refine CW.skip (EX.seq (CW.seq (CW.block (CW.seq (CW.region ?_)))))
            refine RW.move rfl rfl ?_
            refine RW.move rfl rfl ?_
            refine RW.ixStr (q := k) Tryd.underlying9 rfl rfl rfl (by omega) hc ?_
            refine RW.eqlI rfl rfl rfl ?_
            refine RW.nil (EX.seq ?_)
            -- mq: cond
            first | refine CW.condD rfl (fun h43 => ?_) (fun h43 => ?_) | refine CW.cond rfl (fun h43 => ?_) (fun h43 => ?_)
            · skip
              have hc47 : c = 47 := UInt8.toNat_inj.1 (by have : (47 : UInt8).toNat = 47 := rfl; omega)
              subst hc47
              have hsplit : s.drop 7 = (s.drop 7).take (k - 7) ++ 47 :: s.drop (k + 1) := by
                have h1 := List.take_append_drop (k - 7) (s.drop 7)
                have h2 := List.drop_eq_getElem_cons (l := s) (i := k) (by omega)
                rw [(List.getElem?_eq_some_iff.1 hc).2] at h2
                rw [List.drop_drop, show 7 + (k - 7) = k by omega, h2] at h1
                exact h1.symm
              have hib : Lib.indexByte (s.drop 7) 47 = ((k - 7 : Nat) : Int) := by
                rcases ib_cases (s.drop 7) 47 with ⟨h1, _⟩ | ⟨pre, post, h1, h2, h3⟩
                · exact absurd (by rw [hsplit]; simp) h1
                · rw [h3]
                  have hlen : ((s.drop 7).take (k - 7)).length = k - 7 := by rw [List.length_take, List.length_drop]; omega
                  generalize hq : (s.drop 7).take (k - 7) = q at *
                  rw [hsplit] at h1
                  have := List.append_eq_append_iff.1 h1
                  rcases this with ⟨zs, e1, e2⟩ | ⟨zs, e1, e2⟩
                  · cases zs with
                    | nil => have := congrArg List.length e1; simp at this; omega
                    | cons y zs =>
                      simp only [List.cons_append, List.cons.injEq] at e2
                      exact absurd (by rw [e1, ← e2.1]; simp) h2
                  · cases zs with
                    | nil => have := congrArg List.length e1; simp at this; omega
                    | cons y zs =>
                      simp only [List.cons_append, List.cons.injEq] at e2
                      exact absurd (by rw [e1, ← e2.1]; simp) hpre
              have hdl : (s.drop k).length ≤ 1000000 := by rw [List.length_drop]; omega
              refine CW.seq (CW.region ?_)
              refine RW.move rfl rfl ?_
              refine RW.move rfl rfl ?_
              refine RW.sliceStrL k Tryd.underlying9 rfl rfl rfl (by first | rfl | omega) (by first | omega | (simp; done) | (simp; omega)) ?_
              -- mq: op 3: ('Op.call', ('Call.mk', ('Callee.value', ('Operand.func', '47')), ('arr', ('Operand.tmp', '47')), ('arr', '9'))) -> slot 48 ("ref.go:73")
              refine RW.call rfl ca47 rfl (fun w' _ => refTake_c w' (s.drop k) hdl) ?_
              refine RW.move rfl rfl ?_
              refine RW.extract rfl rfl rfl ?_
              refine RW.extract rfl rfl rfl ?_
              refine RW.assign rfl rfl ?_
              refine RW.assign rfl rfl ?_
              refine RW.nil (EX.seq (CW.seq (CW.region ?_)))
              refine RW.move rfl rfl ?_
              refine RW.move rfl rfl ?_
              refine RW.sliceStrLH 7 k Tryd.underlying9 rfl rfl rfl rfl (by first | rfl | omega) (by first | rfl | omega) (by omega) (by first | omega | (simp; done) | (simp; omega)) ?_
              refine RW.move rfl rfl ?_
              refine RW.assign rfl rfl ?_
              refine RW.assign rfl rfl ?_
              refine RW.assign rfl rfl ?_
              refine RW.nil (EX.seq (CW.ret (EX.bkR (EX.seqR (EX.lpR (EX.bkR (EX.seqR ?_)))))))
              refine EX.fin3 Tryd.results29 rfl rfl rfl (fun wz hw => ?_)
              -- mq: done
              refine ⟨?_, hw.ext⟩
              rw [fileR, fileL, if_pos ⟨by omega, hlow⟩, hib, if_neg (by omega)]
              simp only [Int.toNat_natCast]
              rw [List.drop_drop, show 7 + (k - 7) = k by omega, List.drop_take]
            · skip
              refine CW.skip (EX.bkN (EX.seq (CW.region ?_)))
              refine RW.move rfl rfl ?_
              refine RW.add rfl rfl rfl (wrap64 (by omega) (by omega)) ?_
              refine RW.assign rfl rfl ?_
              refine RW.nil ?_
              -- mq: loopend
              refine EX.lpN (k + 1) ⟨by omega, by omega, fun j h1 h2 e => ?_⟩ (by omega) (by repeat (first | exact Sub.nil | refine Sub.cons (by rfl) ?_)) (fun w' hw' => hw')
              by_cases hjk : j = k
              · subst hjk
                rw [hc] at e
                simp only [Option.some.injEq] at e
                exact h43 (by rw [e]; rfl)
              · exact hno j h1 (by omega) e
          · skip
            have hkl2 : k = s.length := by omega
            subst hkl2
            refine CW.exit (EX.seqE (EX.lpE (EX.bkE (EX.seq (CW.seq (CW.region ?_))))))
            refine RW.assign rfl rfl ?_
            refine RW.assign rfl rfl ?_
            refine RW.assign rfl rfl ?_
            refine RW.nil (EX.seq (CW.ret ?_))
            refine EX.fin3 Tryd.results29 rfl rfl rfl (fun wz hw => ?_)
            -- mq: done
            have hnone : 47 ∉ s.drop 7 := by
              rw [List.take_of_length_le (by rw [List.length_drop]; omega)] at hpre
              exact hpre
            refine ⟨?_, hw.ext⟩
            rcases ib_cases (s.drop 7) 47 with ⟨_, h⟩ | ⟨pre, post, hpp, _, _⟩
            · rw [fileR, fileL, if_pos ⟨by omega, hlow⟩, if_pos (by omega)]
            · exact absurd (by rw [hpp]; simp) hnone
end Go.Proofs.YtemcblinkicblaaDoor.Mq
