/- what chapter 16 computes -/
import Derived.Test.YtkabehgjgicckaaBits
import Derived.Test.YtkabehgjgicckaaTypes
namespace Go.Proofs.Ytkabehgjgicckaa.Mq
open Go Go.RowKit Go.Proofs

def betw (c lo hi : UInt8) : Bool := decide (lo.toNat ≤ c.toNat) && decide (c.toNat ≤ hi.toNat)
def marks : List UInt8 := [45, 46, 95, 126, 47]
def plainB (c : UInt8) : Bool := betw c 97 122 || betw c 65 90 || betw c 48 57 || marks.contains c
def digs : List UInt8 := [48, 49, 50, 51, 52, 53, 54, 55, 56, 57, 65, 66, 67, 68, 69, 70]
def hexU (n : Nat) : UInt8 := digs.getD n 0
def layB (c : UInt8) : List UInt8 := if plainB c then [c] else [37, hexU (c.toNat / 16), hexU (c.toNat % 16)]
def layL (s : List UInt8) : List UInt8 := s.flatMap layB
def hexI (c : UInt8) : Int := if betw c 48 57 then (c.toNat : Int) - 48 else if betw c 97 102 then (c.toNat : Int) - 97 + 10 else if betw c 65 70 then (c.toNat : Int) - 65 + 10 else -1
def twoU (a b : UInt8) : UInt8 := UInt8.ofNat (16 * (hexI a).toNat + (hexI b).toNat)
def takeL : List UInt8 → List UInt8 × Bool
  | [] => ([], true)
  | [c] => ([c], decide (c ≠ 37))
  | [c, d] => (c :: (takeL [d]).1, decide (c ≠ 37) && (takeL [d]).2)
  | c :: a :: b :: t =>
    if c ≠ 37 then (c :: (takeL (a :: b :: t)).1, (takeL (a :: b :: t)).2)
    else if 0 ≤ hexI a ∧ 0 ≤ hexI b then (twoU a b :: (takeL t).1, (takeL t).2)
    else (37 :: (takeL (a :: b :: t)).1, false)
def lowB (c : UInt8) : UInt8 := if betw c 65 90 then UInt8.ofNat (c.toNat + 32) else c
theorem hexI_range (c : UInt8) : -1 ≤ hexI c ∧ hexI c ≤ 15 := by
  unfold hexI betw
  have := c.toNat_lt
  simp only [Bool.and_eq_true, decide_eq_true_eq]
  have e1 : (48 : UInt8).toNat = 48 := rfl
  have e2 : (57 : UInt8).toNat = 57 := rfl
  have e3 : (97 : UInt8).toNat = 97 := rfl
  have e4 : (102 : UInt8).toNat = 102 := rfl
  have e5 : (65 : UInt8).toNat = 65 := rfl
  have e6 : (70 : UInt8).toNat = 70 := rfl
  rw [e1, e2, e3, e4, e5, e6]
  split
  · omega
  · split
    · omega
    · split <;> omega
end Go.Proofs.Ytkabehgjgicckaa.Mq
