/- tape: steps as plain data; their lines, parsed -/
import Derived.Test.YtnpafpnameleaaaDoorTd
namespace Go.Proofs.YtnpafpnameleaaaDoor.Mq
open Go Go.RowKit Go.Proofs

structure StV where
  k : Int
  a : Int
  b : Int
  d : List UInt8
deriving DecidableEq
abbrev StV.cells (x : StV) : List Value := [.int .i64 x.k, .int .i64 x.a, .int .i64 x.b, .string (bs x.d)]
def ESt : Enc StV := ⟨fun x => x.cells, 4, fun _ => rfl, fun _ => by repeat (first | exact Ones.nil | refine Ones.cons rfl ?_)⟩
def zeroS : StV := ⟨0, 0, 0, []⟩
def wordsK : List (List UInt8) := [[102, 101, 101, 100], [115, 105, 122, 101], [102, 111, 108, 100], [106, 117, 109, 112], [115, 99, 114, 111, 108, 108], [102, 105, 110, 100], [99, 111, 112, 121]]
def numsK (k : Nat) : Nat := [0, 2, 2, 2, 1, 1, 2].getD k 0
def hasK (k : Nat) : Bool := decide (k = 0 ∨ k = 5)
def okSt (x : StV) : Bool := decide (0 ≤ x.k ∧ x.k ≤ 6) && decide (x.d.length ≤ 65536) && (decide (1 ≤ numsK x.k.toNat) || decide (x.a = 0)) && (decide (2 ≤ numsK x.k.toNat) || decide (x.b = 0)) && (hasK x.k.toNat || decide (x.d = []))
def wordsS (x : StV) : List (List UInt8) := wordsK.getD x.k.toNat [] :: ((if 1 ≤ numsK x.k.toNat then [Lib.itoa x.a] else []) ++ ((if 2 ≤ numsK x.k.toNat then [Lib.itoa x.b] else []) ++ (if hasK x.k.toNat = true then [hexT x.d] else [])))
def lineS (x : StV) : List UInt8 := Lib.join (wordsS x) [32]
/-- what the words behind the first one say -/
def fillS (k : Nat) (ws : List (List UInt8)) : StV × Nat :=
  if ws.length ≠ numsK k + (if hasK k = true then 1 else 0) then (zeroS, 4) else
  match (if 1 ≤ numsK k then numF (ws.getD 0 []) else some 0), (if 2 ≤ numsK k then numF (ws.getD 1 []) else some 0) with
  | some a, some b => if hasK k = true then (if (dataF (ws.getD (numsK k) [])).2 = 0 then (⟨k, a, b, (dataF (ws.getD (numsK k) [])).1⟩, 0) else (zeroS, (dataF (ws.getD (numsK k) [])).2)) else (⟨k, a, b, []⟩, 0)
  | _, _ => (zeroS, 4)
def kindOf (w : List UInt8) : Option Nat := (List.range 7).find? (fun k => decide (wordsK.getD k [] = w))
def parseS (s : List UInt8) : StV × Nat := match kindOf ((fullP 32 s).headD []) with
  | none => (zeroS, 7)
  | some k => fillS k (fullP 32 s).tail
theorem okSt_iff {x : StV} : okSt x = true ↔ (0 ≤ x.k ∧ x.k ≤ 6) ∧ x.d.length ≤ 65536 ∧ (1 ≤ numsK x.k.toNat ∨ x.a = 0) ∧ (2 ≤ numsK x.k.toNat ∨ x.b = 0) ∧ (hasK x.k.toNat = true ∨ x.d = []) := by
  unfold okSt
  simp only [Bool.and_eq_true, Bool.or_eq_true, decide_eq_true_eq]
  constructor
  · rintro ⟨⟨⟨⟨h1, h2⟩, h3⟩, h4⟩, h5⟩; exact ⟨h1, h2, h3, h4, h5⟩
  · rintro ⟨h1, h2, h3, h4, h5⟩; exact ⟨⟨⟨⟨h1, h2⟩, h3⟩, h4⟩, h5⟩
theorem kindOf_word : ∀ k, k < 7 → kindOf (wordsK.getD k []) = some k := by decide
theorem wordsK_no : ∀ k, k < 7 → (32 : UInt8) ∉ wordsK.getD k [] := by decide
theorem wordsS_no {x : StV} (h : 0 ≤ x.k ∧ x.k ≤ 6) : ∀ w ∈ wordsS x, (32 : UInt8) ∉ w := by
  intro w hw
  unfold wordsS at hw
  rcases List.mem_cons.1 hw with rfl | hw
  · exact wordsK_no _ (by omega)
  rcases List.mem_append.1 hw with hw | hw
  · split at hw
    · rw [List.mem_singleton.1 hw]; exact itoa_no (by decide)
    · cases hw
  rcases List.mem_append.1 hw with hw | hw
  · split at hw
    · rw [List.mem_singleton.1 hw]; exact itoa_no (by decide)
    · cases hw
  · split at hw
    · rw [List.mem_singleton.1 hw]; exact hexT_no (by decide)
    · cases hw
theorem words_lineS {x : StV} (h : 0 ≤ x.k ∧ x.k ≤ 6) : fullP 32 (lineS x) = wordsS x := full_join 32 _ (by unfold wordsS; simp) (wordsS_no h)
theorem numF_itoa {n : Int} (h : In64 n) : numF (Lib.itoa n) = some n := numF_iff.2 ⟨rfl, h⟩
theorem parse_line {x : StV} (h : okSt x = true) (ha : In64 x.a) (hb : In64 x.b) : parseS (lineS x) = (x, 0) := by
  obtain ⟨h1, h2, h3, h4, h5⟩ := okSt_iff.1 h
  obtain ⟨kk, a, b, d⟩ := x
  dsimp only at h1 h2 h3 h4 h5 ha hb
  obtain ⟨k, rfl⟩ : ∃ k : Nat, kk = (k : Int) := ⟨kk.toNat, by omega⟩
  have hk : k < 7 := by omega
  have hkk : ((k : Int)).toNat = k := by omega
  rw [hkk] at h3 h4 h5
  unfold parseS
  rw [words_lineS (by dsimp only; omega)]
  unfold wordsS
  dsimp only
  rw [hkk, List.headD_cons, kindOf_word k hk, List.tail_cons]
  dsimp only
  have hna := numF_itoa ha
  have hnb := numF_itoa hb
  have hd := dataF_hex h2
  rcases (show k = 0 ∨ k = 1 ∨ k = 2 ∨ k = 3 ∨ k = 4 ∨ k = 5 ∨ k = 6 by omega) with rfl | rfl | rfl | rfl | rfl | rfl | rfl
  · obtain rfl : a = 0 := by simpa [numsK] using h3
    obtain rfl : b = 0 := by simpa [numsK] using h4
    simp [fillS, numsK, hasK, hd]
  · obtain rfl : d = [] := by simpa [hasK] using h5
    simp [fillS, numsK, hasK, hna, hnb]
  · obtain rfl : d = [] := by simpa [hasK] using h5
    simp [fillS, numsK, hasK, hna, hnb]
  · obtain rfl : d = [] := by simpa [hasK] using h5
    simp [fillS, numsK, hasK, hna, hnb]
  · obtain rfl : d = [] := by simpa [hasK] using h5
    obtain rfl : b = 0 := by simpa [numsK] using h4
    simp [fillS, numsK, hasK, hna]
  · obtain rfl : b = 0 := by simpa [numsK] using h4
    simp [fillS, numsK, hasK, hna, hd]
  · obtain rfl : d = [] := by simpa [hasK] using h5
    simp [fillS, numsK, hasK, hna, hnb]
end Go.Proofs.YtnpafpnameleaaaDoor.Mq
