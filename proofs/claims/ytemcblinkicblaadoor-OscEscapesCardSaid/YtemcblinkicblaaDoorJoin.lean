/- texts, laid (the plain half of card/XJoin: strings.Join is not in this chapter) -/
import Derived.Test.YtemcblinkicblaaDoorDig
import Derived.Test.YtemcblinkicblaaDoorTwo
import Derived.Lib.Join
import Derived.Lib.JoinLaws
namespace Go.Proofs.YtemcblinkicblaaDoor.Mq
open Go Go.RowKit Go.Proofs

def EStr : Enc (List UInt8) := ⟨fun s => [.string (bs s)], 1, fun _ => rfl, fun _ => Ones.cons rfl Ones.nil⟩
theorem bs_list (s : List UInt8) : (bs s).data.toList = s := rfl
def numsT (l : List Int) : List UInt8 := Lib.join (l.map Lib.itoa) [59]
theorem join_le (sep : List UInt8) (k : Nat) : ∀ (L : List (List UInt8)), (∀ s ∈ L, s.length ≤ k) → (Lib.join L sep).length ≤ L.length * (k + sep.length)
  | [], _ => by simp [Lib.join_nil]
  | x :: r, h => by
    rw [Lib.join_cons, List.length_append]
    have h1 := h x (by simp)
    have key : ∀ (r : List (List UInt8)), (∀ s ∈ r, s.length ≤ k) → (Lib.joinTail sep r).length ≤ r.length * (k + sep.length) := by
      intro r
      induction r with
      | nil => intro _; simp [Lib.joinTail]
      | cons y r ih =>
        intro h
        have h2 := ih (fun s hs => h s (by simp [hs]))
        have h3 := h y (by simp)
        unfold Lib.joinTail at h2 ⊢
        rw [List.map_cons, List.flatten_cons, List.length_append, List.length_append, List.length_cons, Nat.add_one_mul]
        omega
    have h2 := key r (fun s hs => h s (by simp [hs]))
    rw [List.length_cons, Nat.add_one_mul]
    omega
theorem numsT_len (l : List Int) (h : ∀ x ∈ l, -9223372036854775808 ≤ x ∧ x ≤ 9223372036854775807) : (numsT l).length ≤ l.length * 22 := by
  have := join_le [59] 21 (l.map Lib.itoa) (fun s hs => by
    obtain ⟨x, hx, rfl⟩ := List.mem_map.1 hs
    exact Lib.itoa_length_le x (h x hx).1 (h x hx).2)
  simpa [numsT] using this
end Go.Proofs.YtemcblinkicblaaDoor.Mq
