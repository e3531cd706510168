/- strings.SplitAfter by the shelf's contract, at one byte -/
import Derived.Test.YtnkdabjahmjdoaaDoorSpl
namespace Go.Proofs.YtnkdabjahmjdoaaDoor.Mq
open Go Go.RowKit Go.Proofs

def lays221_ren : Shelf.Ren := ⟨fun | 138 => 68 | 143 => 69 | 195 => 82 | 197 => 83 | 217 => 97 | 218 => 84 | 219 => 85 | 221 => 55 | 224 => 99 | 225 => 98 | 260 => 96 | 266 => 103 | 267 => 100 | 268 => 67 | 314 => 104 | n => n, fun | 0 => 0 | 3 => 3 | 4 => 4 | 5 => 5 | 9 => 9 | 21 => 21 | 31 => 33 | 46 => 87 | 51 => 107 | 105 => 111 | 119 => 127 | 138 => 129 | 139 => 130 | 146 => 131 | n => n, fun | 1 => 1 | 3 => 6 | 4 => 7 | n => n⟩
theorem lays221 : Lays.n221 Tryd.prog lays221_ren where
  mixed := by kernel_rfl
  f138 := Tryd.func68.trans (congrArg some (by kernel_rfl))
  f143 := Tryd.func69.trans (congrArg some (by kernel_rfl))
  f195 := Tryd.func82.trans (congrArg some (by kernel_rfl))
  f197 := Tryd.func83.trans (congrArg some (by kernel_rfl))
  f217 := Tryd.func97.trans (congrArg some (by kernel_rfl))
  f218 := Tryd.func84.trans (congrArg some (by kernel_rfl))
  f219 := Tryd.func85.trans (congrArg some (by kernel_rfl))
  f221 := Tryd.func55.trans (congrArg some (by kernel_rfl))
  f224 := Tryd.func99.trans (congrArg some (by kernel_rfl))
  f225 := Tryd.func98.trans (congrArg some (by kernel_rfl))
  f260 := Tryd.func96.trans (congrArg some (by kernel_rfl))
  f266 := Tryd.func103.trans (congrArg some (by kernel_rfl))
  f267 := Tryd.func100.trans (congrArg some (by kernel_rfl))
  f268 := Tryd.func67.trans (congrArg some (by kernel_rfl))
  f314 := Tryd.func104.trans (congrArg some (by kernel_rfl))
  t0 := Tryd.underlying0
  a0 := Tryd.isAgg0
  z0 := Tryd.sizeOf0
  v0 := Tryd.zeroValue0
  t3 := Tryd.underlying3
  a3 := Tryd.isAgg3
  z3 := Tryd.sizeOf3
  v3 := Tryd.zeroValue3
  t4 := Tryd.underlying4
  a4 := Tryd.isAgg4
  z4 := Tryd.sizeOf4
  v4 := Tryd.zeroValue4
  t5 := Tryd.underlying5
  a5 := Tryd.isAgg5
  z5 := Tryd.sizeOf5
  v5 := Tryd.zeroValue5
  t9 := Tryd.underlying9
  a9 := Tryd.isAgg9
  z9 := Tryd.sizeOf9
  v9 := Tryd.zeroValue9
  t21 := Tryd.underlying21
  a21 := Tryd.isAgg21
  z21 := Tryd.sizeOf21
  v21 := Tryd.zeroValue21
  t31 := Tryd.underlying33
  a31 := Tryd.isAgg33
  z31 := Tryd.sizeOf33
  v31 := Tryd.zeroValue33
  t46 := Tryd.underlying87
  a46 := Tryd.isAgg87
  z46 := Tryd.sizeOf87
  v46 := Tryd.zeroValue87
  t51 := Tryd.underlying107
  a51 := Tryd.isAgg107
  z51 := Tryd.sizeOf107
  v51 := Tryd.zeroValue107
  t105 := Tryd.underlying111
  a105 := Tryd.isAgg111
  z105 := Tryd.sizeOf111
  v105 := Tryd.zeroValue111
  t119 := Tryd.underlying127
  a119 := Tryd.isAgg127
  z119 := Tryd.sizeOf127
  t138 := Tryd.underlying129
  a138 := Tryd.isAgg129
  z138 := Tryd.sizeOf129
  v138 := Tryd.zeroValue129
  t139 := Tryd.underlying130
  a139 := Tryd.isAgg130
  z139 := Tryd.sizeOf130
  v139 := Tryd.zeroValue130
  t146 := Tryd.underlying131
  a146 := Tryd.isAgg131
  z146 := Tryd.sizeOf131
  v146 := Tryd.zeroValue131
  g1 := by kernel_rfl
  g3 := by kernel_rfl
  g4 := by kernel_rfl
theorem caSplitAfter : CaT Tryd.prog 46 := CaT.of Tryd.func46 (by kernel_rfl) (by kernel_rfl)
theorem caGenSplit : CaT Tryd.prog 55 := CaT.of Tryd.func55 (by kernel_rfl) (by kernel_rfl)
/-- the lines of a text, each with its end; the last one without -/
def afterL (c : UInt8) : List UInt8 → List (List UInt8)
  | [] => [[]]
  | a :: s => if a = c then [a] :: afterL c s else match afterL c s with
    | [] => [[a]]
    | p :: r => (a :: p) :: r
theorem afterL_ne (c : UInt8) (s : List UInt8) : afterL c s ≠ [] := by
  cases s with
  | nil => simp [afterL]
  | cons a s =>
    unfold afterL
    split
    · simp
    · split <;> simp
theorem afterL_out {c : UInt8} : ∀ {s : List UInt8}, c ∉ s → afterL c s = [s]
  | [], _ => rfl
  | a :: s, h => by
    unfold afterL
    rw [if_neg (fun e => h (by rw [e]; simp)), afterL_out (fun e => h (List.mem_cons_of_mem _ e))]
theorem afterL_cut {c : UInt8} : ∀ {p q : List UInt8}, c ∉ p → afterL c (p ++ c :: q) = (p ++ [c]) :: afterL c q
  | [], q, _ => by
    show afterL c (c :: q) = _
    unfold afterL
    rw [if_pos rfl]
    cases q <;> rfl
  | a :: p, q, h => by
    have ih := afterL_cut (p := p) (q := q) (fun e => h (List.mem_cons_of_mem _ e))
    rw [List.cons_append]
    conv => lhs; unfold afterL
    rw [if_neg (fun e => h (by rw [e]; simp)), ih]
    rfl
theorem splitK_after (c : UInt8) (sv : Nat) (hsv : sv = 1) : ∀ (m : Nat) (s : List UInt8), s.length ≤ m → Lib.splitK [c] sv (s.count c) s = afterL c s
  | m, s, hm => by
    subst hsv
    rcases ib_cases s c with ⟨h1, h2⟩ | ⟨pre, post, rfl, h2, h3⟩
    · rw [List.count_eq_zero_of_not_mem h1, afterL_out h1]; rfl
    · have hk : (pre ++ c :: post).count c = post.count c + 1 := by
        rw [List.count_append, List.count_eq_zero_of_not_mem h2, List.count_cons_self]; omega
      rw [hk, afterL_cut h2]
      unfold Lib.splitK
      rw [index_one, h3, if_neg (by simp)]
      cases m with
      | zero => simp at hm
      | succ m =>
        have e1 : ((pre.length : Int)).toNat = pre.length := by omega
        have e2 : (pre ++ c :: post).take (pre.length + 1) = pre ++ [c] := by
          rw [show pre ++ c :: post = (pre ++ [c]) ++ post by simp]
          exact List.take_left' (by simp)
        rw [e1, e2, List.length_singleton, ← List.drop_drop, List.drop_left', List.drop_one, List.tail_cons, splitK_after c 1 rfl m post (by simp at hm; omega)]
        rfl
theorem splitAfter_c (w : World) (hg : Gm w) (s : List UInt8) (c : UInt8) (hs : s.length ≤ 1000000) :
    Calls Tryd.prog 46 [.string (bs s), .string (bs [c])].toArray w (RetSl EStr w (afterL c s)) := by
  refine calls (n := 10) Tryd.func46 rfl Tryd.ntmps46 rfl ?_
  refine CW.sub (H' := SH w [] []) ?_ (Sub.refl _) (fun x hx => SH.start' _ _ hx)
  refine CW.seq (CW.region ?_)
  refine RW.assign rfl rfl ?_
  refine RW.nil (EX.seq (CW.seq ?_))
  -- mq: region
  refine CW.region ?_
  refine RW.move rfl rfl ?_
  refine RW.move rfl rfl ?_
  refine RW.move rfl rfl ?_
  refine RW.lenS Tryd.underlying9 rfl rfl ?_
  -- mq: at
  refine RW.callA (R := fun w0 v w1 => ∃ A n c', v = .slice A n c' ∧ Rd EStr w1 (fun k => w0.heap.size ≤ k) A n c' (afterL c s)) rfl caGenSplit rfl (fun w' hw' => ?_) (fun w1 w2 v hw1 he12 hw2 hlt2 hv => ?_)
  · obtain ⟨m, hm⟩ := hg.ext hw'.ext
    have hcount : Lib.countB (bs s) (bs [c]) = s.count c := Lib.count_one c s
    have hcl : s.count c ≤ s.length := List.count_le_length
    refine (Any.strings_genSplit lays221 (by kernel_rfl) (bs s) (bs [c]) 1 (-1) (s.count c + 1) m w' (by rw [bs_size]; omega) hm (by rw [bs_size]; exact Nat.le_refl 1) (by rw [bs_size]; exact Nat.le_refl 1) (by decide) (by decide) (by rw [hcount, bs_size, if_pos (by decide)]; omega)).mono ?_
    rintro e w4 ⟨rfl, rfl⟩
    rw [Nat.add_sub_cancel]
    have hmap : (Lib.splitB (bs [c]) 1 (s.count c) (bs s)).map (·.data.toList) = afterL c s := by
      rw [Lib.splitB_data]
      exact splitK_after c 1 rfl _ s (Nat.le_refl _)
    have hbs : (Lib.splitB (bs [c]) 1 (s.count c) (bs s)) = (afterL c s).map bs := by
      rw [← hmap, List.map_map]
      conv => lhs; rw [← List.map_id (Lib.splitB (bs [c]) 1 (s.count c) (bs s))]
      exact List.map_congr_left fun x _ => (bs_self x).symm
    have hlen0 := Lib.splitB_all (bs [c]) (by rw [bs_size]; exact Nat.le_refl 1) 1 (s.count c) (bs s) hcount
    have hlen : (afterL c s).length = s.count c + 1 := by
      rw [hbs, List.length_map] at hlen0
      exact hlen0
    refine ⟨_, rfl, ext_alloc _ _, _, _, _, rfl, ?_⟩
    rw [show Lib.cellsOf (Lib.splitB (bs [c]) 1 (s.count c) (bs s)) (s.count c + 1) = ((Lib.splitB (bs [c]) 1 (s.count c) (bs s)).map Value.string).toArray by rw [← hlen0]; exact Lib.cellsOf_full _, hbs, List.length_map, hlen]
    refine ⟨hlen, Nat.le_refl _, by simp only [maxLen]; omega, fun _ => ⟨_, rfl, Nat.le_refl _, fun k a j u hk hj => ?_⟩⟩
    have h0 : j = 0 ∧ u = .string (bs a) := by
      cases j with
      | zero => exact ⟨rfl, by simpa [EStr] using hj.symm⟩
      | succ j => simp [EStr] at hj
    obtain ⟨rfl, rfl⟩ := h0
    have hge : ((((afterL c s).map bs).map Value.string).toArray)[k]? = some (Value.string (bs a)) := by
      rw [List.getElem?_toArray, List.getElem?_map, List.getElem?_map, hk]; rfl
    rw [Addr.add_lit, Addr.add_lit, World.cell?_alloc_new, show 0 + k * EStr.sz + 0 = k from by show 0 + k * 1 + 0 = k; omega]
    exact hge
  obtain ⟨A, n, c', rfl, hrd⟩ := hv
  have hx12 : Ext [] w w2 := hw1.ext.trans0 he12
  refine RW.assign rfl rfl ?_
  refine RW.nil (EX.seq (CW.ret ?_))
  refine EX.fin1 Tryd.results46 rfl (fun wz hw => ?_)
  -- mq: done
  exact ⟨_, _, _, rfl, hx12.trans0 hw.ext, (hrd.ext hw.ext (by intro k hk hk2; cases hk2)).weak (fun k hk => Nat.le_trans hw1.ext.size hk)⟩
end Go.Proofs.YtnkdabjahmjdoaaDoor.Mq
