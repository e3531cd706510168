/-
  ARGUMENTS OPENED: a type's flat shape (structs and arrays laid out cell by cell), and a slice's elements as a list.
-/
import Derived.Test.YtjmmikdbhhomiaaCallA
import Derived.WalkKit
import Derived.ProofKit
import Derived.OpenShut
import Derived.ShutString
import Derived.ChangeOld
import Derived.ChangeSame
import Derived.Deep.Slices
import Derived.SizedLaws
namespace Go.Proofs.Ytjmmikdbhhomiaa.Mq
open Go Go.RowKit Go.ChangeShapes Go.WideShapes Go.Deep

inductive Lf where
  | int (k : IntKind)
  | bool
  | str
  | slc (t : TypeId)
def shpS (P : Program) (g : TypeId → Option (List Lf)) : List Field → Nat → Option (List Lf)
  | [], _ => some []
  | f :: fs, o => match g f.type, shpS P g fs (o + P.cellsOf f.type) with
    | some a, some b => if f.offset = o ∧ a.length = P.cellsOf f.type then some (a ++ b) else none
    | _, _ => none
def shp (P : Program) : Nat → TypeId → Option (List Lf)
  | 0, _ => none
  | f + 1, t => match P.underlying t with
    | some (.struct fs) => match shpS P (shp P f) fs.toList 0 with
      | some L => if L.length = P.cellsOf t then some L else none
      | none => none
    | some (.array n e) => match shp P f e with
      | some a => if a.length = P.cellsOf e ∧ (List.replicate n a).flatten.length = P.cellsOf t then some (List.replicate n a).flatten else none
      | none => none
    | some (.int k) => some [.int k]
    | some .bool => some [.bool]
    | some .string => some [.str]
    | some (.slice _) => some [.slc t]
    | _ => none
/-- no slice and no string within is greater than a machine has room for -/
def Wt {H : Type} (P : Program) (t : TypeId) (d : DataW H) : Prop := ∀ n ∈ DataW.weights P t d, n ≤ reachBytes
theorem weightsAll_mem {H : Type} {P : Program} {e : TypeId} : ∀ {l : List (DataW H)} {d : DataW H}, d ∈ l → ∀ n ∈ d.weights P e, n ∈ DataW.weightsAll P e l
  | [], _, h, _, _ => by simp at h
  | d0 :: l, d, h, n, hn => by
    simp only [DataW.weightsAll, List.mem_append]
    rcases List.mem_cons.1 h with rfl | h
    · exact .inl hn
    · exact .inr (weightsAll_mem h n hn)
section
variable {H : Type} (enc : TypeId × Value → H) (P : Program) (w : World) (base : Nat) (spare : Nat → Bool) (held : Bool)
def Fit : Lf → Value → Prop
  | .int k, v => ∃ n, v = .int k n ∧ (Lit.int k n).wf = true
  | .bool, v => ∃ b, v = .bool b
  | .str, v => ∃ s, v = .string s ∧ s.size ≤ reachBytes
  | .slc t, v => ∃ A n c fuel x, v = .slice A n c ∧ DataW.trod enc P w base spare held fuel t [v] = some x ∧ Wt P t x.1
def Fits : List Lf → List Value → Prop
  | [], [] => True
  | l :: ls, v :: vs => Fit enc P w base spare held l v ∧ Fits ls vs
  | _, _ => False
end
section
variable {H : Type} {enc : TypeId × Value → H} {P : Program} {w : World} {base : Nat} {spare : Nat → Bool} {held : Bool}
theorem Fits.cons {l : Lf} {ls : List Lf} {cs : List Value} (h : Fits enc P w base spare held (l :: ls) cs) : ∃ v vs, cs = v :: vs ∧ Fit enc P w base spare held l v ∧ Fits enc P w base spare held ls vs := by
  cases cs with
  | nil => exact h.elim
  | cons v vs => exact ⟨v, vs, rfl, h.1, h.2⟩
theorem Fits.nil' {cs : List Value} (h : Fits enc P w base spare held [] cs) : cs = [] := by
  cases cs with
  | nil => rfl
  | cons v vs => exact h.elim
theorem Fits.len : ∀ {L : List Lf} {cs : List Value}, Fits enc P w base spare held L cs → cs.length = L.length
  | [], [], _ => rfl
  | _ :: _, _ :: _, h => by rw [List.length_cons, List.length_cons, Fits.len h.2]
  | [], _ :: _, h => h.elim
  | _ :: _, [], h => h.elim
theorem Fits.app : ∀ {L M : List Lf} {a b : List Value}, Fits enc P w base spare held L a → Fits enc P w base spare held M b → Fits enc P w base spare held (L ++ M) (a ++ b)
  | [], _, [], _, _, hb => hb
  | _ :: _, _, _ :: _, _, ha, hb => ⟨ha.1, Fits.app ha.2 hb⟩
  | [], _, _ :: _, _, h, _ => h.elim
  | _ :: _, _, [], _, h, _ => h.elim
theorem fits_fields {g : TypeId → Option (List Lf)} {n : Nat} {cs : List Value} (hg : ∀ τ L ds x, g τ = some L → DataW.trod enc P w base spare held n τ ds = some x → Wt P τ x.1 → Fits enc P w base spare held L ds) :
    ∀ (fs : List Field) (o : Nat) (L : List Lf), shpS P g fs o = some L → (∀ f ∈ fs, ∃ y, DataW.trod enc P w base spare held n f.type ((cs.drop f.offset).take (P.cellsOf f.type)) = some y ∧ Wt P f.type y.1) →
    Fits enc P w base spare held L ((cs.drop o).take L.length)
  | [], o, L, h, _ => by
    simp only [shpS, Option.some.injEq] at h
    subst h
    simp [Fits]
  | f :: fs, o, L, h, hx => by
    simp only [shpS] at h
    split at h
    · rename_i a b ha hb
      split at h
      · rename_i hc
        simp only [Option.some.injEq] at h
        subst h
        obtain ⟨y, hy, hyw⟩ := hx f (by simp)
        have h1 := hg _ _ _ _ ha hy hyw
        have h2 := fits_fields hg fs _ b hb (fun f' hf' => hx f' (by simp [hf']))
        rw [List.length_append, List.take_add, List.drop_drop]
        refine Fits.app ?_ ?_
        · rw [hc.2, ← hc.1]; exact h1
        · rw [hc.2]; exact h2
      · cases h
    · cases h
theorem fits_rep {a : List Lf} {C n : Nat} {cs : List Value} (ha : a.length = C) (hx : ∀ i, i < n → Fits enc P w base spare held a ((cs.drop (i * C)).take C)) : ∀ k, k ≤ n → Fits enc P w base spare held (List.replicate k a).flatten (cs.take (k * C))
  | 0, _ => by simp [Fits]
  | k + 1, hk => by
    have h1 := fits_rep ha hx k (by omega)
    have h2 := hx k (by omega)
    rw [Nat.add_mul, Nat.one_mul, List.take_add, List.replicate_succ', List.flatten_append, List.flatten_singleton]
    exact Fits.app h1 h2
theorem trod_shp : ∀ (f : Nat) (t : TypeId) (L : List Lf) (fuel : Nat) (cs : List Value) (x : DataW H × List MemPlace), shp P f t = some L → DataW.trod enc P w base spare held fuel t cs = some x → Wt P t x.1 → Fits enc P w base spare held L cs
  | 0, _, _, _, _, _, h, _, _ => by simp [shp] at h
  | f + 1, t, L, fuel, cs, x, h, ht, hwt => by
    simp only [shp] at h
    split at h
    · rename_i fs hu
      split at h
      · rename_i L' hL
        split at h
        · rename_i hlen
          simp only [Option.some.injEq] at h
          subst h
          obtain ⟨xs, n, _, hx0, hcl, hxl, hf⟩ := DataW.trod_struct hu ht
          have := fits_fields (cs := cs) (n := n) (fun τ L ds x h1 h2 h3 => trod_shp f τ L n ds x h1 h2 h3) fs.toList 0 L' hL (fun f' hf' => by
            obtain ⟨i, hi⟩ := List.getElem?_of_mem hf'
            have hi' : fs[i]? = some f' := by simpa using hi
            have hlt : i < xs.length := by
              have := (List.getElem?_eq_some_iff.1 hi).1
              rw [hxl]
              simpa using this
            exact ⟨xs[i], by rw [hf i f' hi', List.getElem?_eq_getElem hlt], fun m hm => hwt m (by
              rw [hx0]
              simp only [DataW.weights, hu]
              exact DataW.weights_mem_each (j := i) (by rw [List.getElem?_map, hi]; rfl) (by rw [List.getElem?_map, List.getElem?_eq_getElem hlt]; rfl) m hm)⟩)
          rw [List.drop_zero, List.take_of_length_le (by omega)] at this
          exact this
        · cases h
      · cases h
    · rename_i n e hu
      split at h
      · rename_i a ha
        split at h
        · rename_i hlen
          simp only [Option.some.injEq] at h
          subst h
          obtain ⟨xs, m, _, hx0, hcl, hxl, hf⟩ := DataW.trod_array hu ht
          have := fits_rep (cs := cs) (n := n) hlen.1 (fun i hi => by
            have h1 := hf i hi
            rw [List.getElem?_eq_getElem (by omega)] at h1
            exact trod_shp f e a m _ _ ha h1 (fun k hk => hwt k (by
              rw [hx0]
              simp only [DataW.weights, hu]
              exact weightsAll_mem (List.mem_map.2 ⟨_, List.getElem_mem _, rfl⟩) k hk))) n (Nat.le_refl _)
          rw [List.take_of_length_le] at this
          · exact this
          · rw [hcl, ← hlen.2]
            have : ∀ k : Nat, (List.replicate k a).flatten.length = k * P.cellsOf e := fun k => by
              induction k with
              | zero => simp
              | succ k ih => rw [List.replicate_succ, List.flatten_cons, List.length_append, ih, hlen.1, Nat.add_mul, Nat.one_mul, Nat.add_comm]
            rw [this n]
            exact Nat.le_refl _
        · cases h
      · cases h
    · rename_i k hu
      simp only [Option.some.injEq] at h
      subst h
      obtain ⟨n, rfl, _, hw⟩ := DataW.trod_int hu ht
      exact ⟨⟨n, rfl, hw⟩, trivial⟩
    · rename_i hu
      simp only [Option.some.injEq] at h
      subst h
      obtain ⟨b, rfl, _⟩ := DataW.trod_bool hu ht
      exact ⟨⟨b, rfl⟩, trivial⟩
    · rename_i hu
      simp only [Option.some.injEq] at h
      subst h
      obtain ⟨s, rfl, hx0, _⟩ := DataW.trod_string hu ht
      exact ⟨⟨s, rfl, hwt _ (by rw [hx0]; simp only [DataW.weights]; exact List.mem_singleton.2 (Array.length_toList (xs := s.data)).symm)⟩, trivial⟩
    · rename_i e hu
      simp only [Option.some.injEq] at h
      subst h
      rcases DataW.trod_slice hu ht with ⟨rfl, _⟩ | ⟨a, len, cap, _, _, _, _, rfl, _⟩
      · exact ⟨⟨none, 0, 0, fuel, x, rfl, ht, hwt⟩, trivial⟩
      · exact ⟨⟨some a, len, cap, fuel, x, rfl, ht, hwt⟩, trivial⟩
    · cases h
theorem wt_of {ts : List TypeId} {ds : List (DataW H)} (h : (DataW.weightsEach P ts ds).all (· ≤ reachBytes) = true) {j : Nat} {t : TypeId} {d : DataW H} (ht : ts[j]? = some t) (hd : ds[j]? = some d) : Wt P t d := fun n hn => by
  simpa using List.all_eq_true.1 h n (DataW.weights_mem_each ht hd n hn)
/-- A SLICE THAT CAME IN, READ AS A LIST: 'G' is what is known of an element. -/
theorem open_rd {α : Type} {E : Enc α} {G : α → Prop} {t e fuel : Nat} {A : Option Addr} {n c : Nat} {x : DataW H × List MemPlace} (f : Nat) (L : List Lf) (ht : P.underlying t = some (.slice e)) (hC : P.cellsOf e = E.sz) (hz : 0 < E.sz)
    (hs : shp P f e = some L) (hE : ∀ cs, Fits enc P w base spare held L cs → ∃ a, E.enc a = cs ∧ G a) (hby : 0 < P.bytesOf e) (h : DataW.trod enc P w base spare held fuel t [.slice A n c] = some x) (hwt : Wt P t x.1) :
    ∃ l, Rd E w (fun k => k < w.heap.size) A n c l ∧ (∀ a ∈ l, G a) ∧ n ≤ reachBytes := by
  rcases open_slice ht h with ⟨h0, _⟩ | ⟨a, len, cap, m, fu, D, Pl, h0, hb, hl, hm, hmm, hx0, hi⟩
  · simp only [List.cons.injEq, Value.slice.injEq, and_true] at h0
    obtain ⟨rfl, rfl, rfl⟩ := h0
    exact ⟨[], Rd.nil _ _ _ _ (Nat.zero_le _) _, by simp, Nat.zero_le _⟩
  · simp only [List.cons.injEq, Value.slice.injEq, and_true] at h0
    obtain ⟨rfl, rfl, rfl⟩ := h0
    have hnm : n ≤ m := by rw [hmm]; split <;> omega
    have hwd : ∀ k, k < n → Wt P e (D k) := fun k hk m' hm' => hwt m' (by
      rw [hx0]
      simp only [DataW.weights, ht, List.mem_cons, List.mem_append]
      exact .inr (.inl (weightsAll_mem (List.mem_map.2 ⟨k, List.mem_range.2 hk, rfl⟩) m' hm')))
    have hsize : n ≤ reachBytes := by
      have := hwt _ (by
        rw [hx0]
        simp only [DataW.weights, ht]
        exact List.mem_cons_self)
      simp only [List.length_map, List.length_range] at this
      exact Nat.le_trans (Nat.le_trans (Nat.le_add_right _ _) (Nat.le_mul_of_pos_right _ hby)) this
    have key : ∀ k, k ≤ n → ∃ l : List α, l.length = k ∧ (∀ a ∈ l, G a) ∧ ∀ i b j u, l[i]? = some b → (E.enc b)[j]? = some u → w.cell? ((a.add (i * E.sz)).add j) = some u := by
      intro k
      induction k with
      | zero => exact fun _ => ⟨[], rfl, by simp, by simp⟩
      | succ k ih =>
        intro hk
        obtain ⟨l, hl1, hl2, hl3⟩ := ih (by omega)
        obtain ⟨cs', hc, htr⟩ := hi k (by omega)
        obtain ⟨b, hb1, hb2⟩ := hE cs' (trod_shp f e L fu cs' _ hs htr (hwd k (by omega)))
        obtain ⟨_, hcl, hat⟩ := World.cells?_some hc
        refine ⟨l ++ [b], by simp [hl1], fun y hy => ?_, fun i y j u hi2 hu => ?_⟩
        · rcases List.mem_append.1 hy with hy | hy
          · exact hl2 y hy
          · rw [List.mem_singleton.1 hy]; exact hb2
        · by_cases hik : i < l.length
          · rw [List.getElem?_append_left hik] at hi2
            exact hl3 i y j u hi2 hu
          · rw [List.getElem?_append_right (by omega)] at hi2
            have : i = k := by
              have := (List.getElem?_eq_some_iff.1 hi2).1
              simp at this
              omega
            subst this
            rw [show i - l.length = 0 by omega] at hi2
            simp only [List.getElem?_cons_zero, Option.some.injEq] at hi2
            subst hi2
            have hj : j < E.sz := by
              have := (List.getElem?_eq_some_iff.1 hu).1
              rw [E.len] at this
              exact this
            have h2 := hat j (by rw [hC]; exact hj)
            rw [hC] at h2
            rw [h2, ← hb1]
            exact hu
    obtain ⟨l, h1, h2, h3⟩ := key n (Nat.le_refl _)
    refine ⟨l, ⟨h1, hl, hm, fun hn => ⟨a, rfl, ?_, fun k b j u hk hu => h3 k b j u hk hu⟩⟩, h2, hsize⟩
    obtain ⟨cs', hc, _⟩ := hi 0 (by omega)
    obtain ⟨b, hb⟩ : ∃ b, l[0]? = some b := ⟨l[0]'(by omega), List.getElem?_eq_getElem _⟩
    obtain ⟨u, hu⟩ : ∃ u, (E.enc b)[0]? = some u := ⟨(E.enc b)[0]'(by rw [E.len]; omega), List.getElem?_eq_getElem _⟩
    have := World.block_lt_of_cell? _ _ (h3 0 b 0 u hb hu)
    rw [block_add, block_add] at this
    exact this
theorem wf_of_int {t : TypeId} {k : IntKind} {n : Int} {d : DataW H} {p : List MemPlace} (ht : P.underlying t = some (.int k)) (h : DataW.Trod enc P w base spare held t (.int k n) d p) : (Lit.int k n).wf = true := by
  obtain ⟨fuel, hf⟩ := h
  obtain ⟨m, he, _, hw⟩ := DataW.trod_int ht hf
  simp [Value.cells] at he
  subst he
  exact hw
theorem size_of_str {t : TypeId} {s : ByteArray} {d : DataW H} {p : List MemPlace} (ht : P.underlying t = some .string) (h : DataW.Trod enc P w base spare held t (.string s) d p) (hw : Wt P t d) : s.size ≤ reachBytes := by
  obtain ⟨fuel, hf⟩ := h
  obtain ⟨m, he, hx, _⟩ := DataW.trod_string ht hf
  simp [Value.cells] at he
  subst he
  obtain ⟨rfl, rfl⟩ := Prod.mk.injEq _ _ _ _ ▸ hx
  exact hw _ (by simp only [DataW.weights]; exact List.mem_singleton.2 (Array.length_toList (xs := s.data)).symm)
theorem okWide_agg {r : Reach} {b0 : Nat} {t : TypeId} {v : Value} (hs : (∃ fs, P.underlying t = some (.struct fs)) ∨ ∃ n e, P.underlying t = some (.array n e)) (hv : Value.okWide P w r b0 t v) : ∃ cs, v = .agg cs := by
  rcases hs with ⟨fs, hs⟩ | ⟨n, e, hs⟩
  · obtain ⟨cs, h, _⟩ := okWide_struct hs hv
    exact ⟨cs, h⟩
  · simp only [Value.okWide, hs] at hv
    obtain ⟨cs, h, _⟩ := hv
    exact ⟨cs, h⟩
theorem arr_of {cs : Array Value} {l : List Value} (h : l = cs.toList) : cs = l.toArray := by rw [h]
end
end Go.Proofs.Ytjmmikdbhhomiaa.Mq
