/- strings.Split by the shelf's contract, at one byte -/
import Derived.Test.YtemcblinkicblaaDoorPmLaw
import Derived.Test.YtemcblinkicblaaDoorJoin
import Derived.Shelf.Strings.Split
namespace Go.Proofs.YtemcblinkicblaaDoor.Mq
open Go Go.RowKit Go.Proofs

def lays146_ren : Shelf.Ren := ⟨fun | 138 => 72 | 143 => 73 | 146 => 40 | 195 => 89 | 197 => 90 | 217 => 60 | 218 => 91 | 219 => 70 | 221 => 56 | 224 => 87 | 225 => 86 | 260 => 100 | 266 => 76 | 267 => 88 | 268 => 71 | 314 => 99 | n => n, fun | 0 => 0 | 3 => 3 | 4 => 4 | 5 => 5 | 9 => 9 | 21 => 21 | 31 => 33 | 46 => 57 | 51 => 110 | 105 => 102 | 119 => 119 | 138 => 121 | 139 => 122 | 146 => 114 | n => n, fun | 1 => 2 | 3 => 4 | 4 => 5 | n => n⟩
theorem lays146 : Lays.n146 Tryd.prog lays146_ren where
  mixed := by kernel_rfl
  f138 := Tryd.func72.trans (congrArg some (by kernel_rfl))
  f143 := Tryd.func73.trans (congrArg some (by kernel_rfl))
  f146 := Tryd.func40.trans (congrArg some (by kernel_rfl))
  f195 := Tryd.func89.trans (congrArg some (by kernel_rfl))
  f197 := Tryd.func90.trans (congrArg some (by kernel_rfl))
  f217 := Tryd.func60.trans (congrArg some (by kernel_rfl))
  f218 := Tryd.func91.trans (congrArg some (by kernel_rfl))
  f219 := Tryd.func70.trans (congrArg some (by kernel_rfl))
  f221 := Tryd.func56.trans (congrArg some (by kernel_rfl))
  f224 := Tryd.func87.trans (congrArg some (by kernel_rfl))
  f225 := Tryd.func86.trans (congrArg some (by kernel_rfl))
  f260 := Tryd.func100.trans (congrArg some (by kernel_rfl))
  f266 := Tryd.func76.trans (congrArg some (by kernel_rfl))
  f267 := Tryd.func88.trans (congrArg some (by kernel_rfl))
  f268 := Tryd.func71.trans (congrArg some (by kernel_rfl))
  f314 := Tryd.func99.trans (congrArg some (by kernel_rfl))
  t0 := Tryd.underlying0
  a0 := Tryd.isAgg0
  z0 := Tryd.sizeOf0
  v0 := Tryd.zeroValue0
  t3 := Tryd.underlying3
  a3 := Tryd.isAgg3
  z3 := Tryd.sizeOf3
  v3 := Tryd.zeroValue3
  t4 := Tryd.underlying4
  a4 := Tryd.isAgg4
  z4 := Tryd.sizeOf4
  v4 := Tryd.zeroValue4
  t5 := Tryd.underlying5
  a5 := Tryd.isAgg5
  z5 := Tryd.sizeOf5
  v5 := Tryd.zeroValue5
  t9 := Tryd.underlying9
  a9 := Tryd.isAgg9
  z9 := Tryd.sizeOf9
  v9 := Tryd.zeroValue9
  t21 := Tryd.underlying21
  a21 := Tryd.isAgg21
  z21 := Tryd.sizeOf21
  v21 := Tryd.zeroValue21
  t31 := Tryd.underlying33
  a31 := Tryd.isAgg33
  z31 := Tryd.sizeOf33
  v31 := Tryd.zeroValue33
  t46 := Tryd.underlying57
  a46 := Tryd.isAgg57
  z46 := Tryd.sizeOf57
  v46 := Tryd.zeroValue57
  t51 := Tryd.underlying110
  a51 := Tryd.isAgg110
  z51 := Tryd.sizeOf110
  v51 := Tryd.zeroValue110
  t105 := Tryd.underlying102
  a105 := Tryd.isAgg102
  z105 := Tryd.sizeOf102
  v105 := Tryd.zeroValue102
  t119 := Tryd.underlying119
  a119 := Tryd.isAgg119
  z119 := Tryd.sizeOf119
  t138 := Tryd.underlying121
  a138 := Tryd.isAgg121
  z138 := Tryd.sizeOf121
  v138 := Tryd.zeroValue121
  t139 := Tryd.underlying122
  a139 := Tryd.isAgg122
  z139 := Tryd.sizeOf122
  v139 := Tryd.zeroValue122
  t146 := Tryd.underlying114
  a146 := Tryd.isAgg114
  z146 := Tryd.sizeOf114
  v146 := Tryd.zeroValue114
  g1 := by kernel_rfl
  g3 := by kernel_rfl
  g4 := by kernel_rfl
theorem caSplit : CaT Tryd.prog 40 := CaT.of Tryd.func40 (by kernel_rfl) (by kernel_rfl)
theorem index_one (c : UInt8) : ∀ s : List UInt8, Lib.index s [c] = Lib.indexByte s c
  | [] => rfl
  | b :: l => by
    have e : [c].isPrefixOf (b :: l) = (b == c) := by
      show (c == b && List.isPrefixOf [] l) = (b == c)
      rw [show List.isPrefixOf [] l = true by cases l <;> rfl, Bool.and_true]
      by_cases h : b = c
      · rw [h]
      · rw [beq_eq_false_iff_ne.2 h, beq_eq_false_iff_ne.2 (fun e => h e.symm)]
    unfold Lib.index Lib.indexByte
    rw [e, index_one c l]
theorem splitK_full (c : UInt8) (sv : Nat) (hsv : sv = 0) : ∀ (m : Nat) (s : List UInt8), s.length ≤ m → Lib.splitK [c] sv (s.count c) s = fullP c s
  | m, s, hm => by
    subst hsv
    rcases ib_cases s c with ⟨h1, h2⟩ | ⟨pre, post, rfl, h2, h3⟩
    · rw [List.count_eq_zero_of_not_mem h1, fullP_out h1]; rfl
    · have hk : (pre ++ c :: post).count c = post.count c + 1 := by
        rw [List.count_append, List.count_eq_zero_of_not_mem h2, List.count_cons_self]; omega
      rw [hk, fullP_cut h2]
      unfold Lib.splitK
      rw [index_one, h3, if_neg (by simp)]
      cases m with
      | zero => simp at hm
      | succ m =>
        have e1 : ((pre.length : Int)).toNat = pre.length := by omega
        rw [e1, Nat.add_zero, List.take_left', List.length_singleton, ← List.drop_drop, List.drop_left', List.drop_one, List.tail_cons, splitK_full c 0 rfl m post (by simp at hm; omega)]
        · rfl
        · rfl
theorem ext_alloc (w : World) (o : Obj) : Ext [] w (w.alloc o) := by
  refine ⟨rfl, rfl, rfl, ?_, fun b hb _ => ?_⟩
  · show w.heap.size ≤ (w.heap.push o).size
    rw [Array.size_push]; omega
  · show (w.heap.push o)[b]? = w.heap[b]?
    rw [Array.getElem?_push, if_neg (Nat.ne_of_lt hb)]
/-- the greatest length that bytealg looks through at once: any number -/
def Gm (w : World) : Prop := ∃ m : Int, w.cell? ⟨lays146_ren.g 1, 0, none⟩ = some (.int .i64 m)
theorem Gm.ext {w w' : World} (h : Gm w) (hx : Ext [] w w') : Gm w' := by
  obtain ⟨m, hm⟩ := h
  exact ⟨m, by rw [hx.cell (World.block_lt_of_cell? _ _ hm) (by simp)]; exact hm⟩
theorem split_c (w : World) (hg : Gm w) (s : List UInt8) (c : UInt8) (hs : s.length ≤ 1000000) :
    Calls Tryd.prog 40 [.string (bs s), .string (bs [c])].toArray w (RetSl EStr w (fullP c s)) := by
  obtain ⟨m, hm⟩ := hg
  refine (Any.strings_Split lays146 (by kernel_rfl) (bs s) (bs [c]) m w (by rw [bs_size]; omega) hm (by rw [bs_size]; exact Nat.le_refl 1)).mono ?_
  rintro e w' ⟨rfl, rfl⟩
  have hcount : Lib.countB (bs s) (bs [c]) = s.count c := Lib.count_one c s
  have hmap : (Lib.splitB (bs [c]) 0 (s.count c) (bs s)).map (·.data.toList) = fullP c s := by
    rw [Lib.splitB_data]
    exact splitK_full c 0 rfl _ s (Nat.le_refl _)
  have hbs : (Lib.splitB (bs [c]) 0 (s.count c) (bs s)) = (fullP c s).map bs := by
    rw [← hmap, List.map_map]
    conv => lhs; rw [← List.map_id (Lib.splitB (bs [c]) 0 (s.count c) (bs s))]
    exact List.map_congr_left fun x _ => (bs_self x).symm
  have hlen : (fullP c s).length = s.count c + 1 := by
    have := Lib.splitB_all (bs [c]) (by rw [bs_size]; exact Nat.le_refl 1) 0 (s.count c) (bs s) hcount
    rw [hbs, List.length_map] at this
    exact this
  have hcl : s.count c ≤ s.length := List.count_le_length
  refine ⟨_, _, _, rfl, ext_alloc _ _, ?_⟩
  rw [hcount, hbs]
  refine ⟨hlen, Nat.le_refl _, by simp only [maxLen]; omega, fun _ => ⟨_, rfl, Nat.le_refl _, fun k a j u hk hj => ?_⟩⟩
  have h0 : j = 0 ∧ u = .string (bs a) := by
    cases j with
    | zero => exact ⟨rfl, by simpa [EStr] using hj.symm⟩
    | succ j => simp [EStr] at hj
  obtain ⟨rfl, rfl⟩ := h0
  have hge : ((((fullP c s).map bs).map Value.string).toArray)[k]? = some (Value.string (bs a)) := by
    rw [List.getElem?_toArray, List.getElem?_map, List.getElem?_map, hk]; rfl
  rw [Addr.add_lit, Addr.add_lit, World.cell?_alloc_new, show 0 + k * EStr.sz + 0 = k from by show 0 + k * 1 + 0 = k; omega]
  exact hge
end Go.Proofs.YtemcblinkicblaaDoor.Mq
