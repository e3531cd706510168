/- walks: group, Clean; the reference's Clean -/
import Derived.Test.YtamchppifbilpaaDoorPm4
namespace Go.Proofs.YtamchppifbilpaaDoor.Mq
open Go Go.RowKit Go.Proofs

theorem take_snoc' {α : Type} {l : List α} {k : Nat} {a : α} (h : l[k]? = some a) : l.take (k + 1) = l.take k ++ [a] := by rw [List.take_add_one, h]; rfl
theorem CW.each {P : Program} {n : Nat} {c : Code} {Q : Post} {l : Fr} {H : World → Prop} (h : ∀ w, H w → CW P n c Q l (fun x => x = w)) : CW P n c Q l H :=
  fun w hw a ha => h w hw w rfl a ha
theorem group_c (w : World) (F : Nat → Prop) (A : Option Addr) (n c : Nat) (g : List Int) (hr : Rd EInt w F A n c g) (hn : n ≤ 1000000) :
    Calls Tryd.prog 20 [.slice A n c].toArray w (RetSl EInt w (cleanG g)) := by
  have hl := hr.len
  have hcap := hr.cap
  refine calls (n := 27) Tryd.func20 rfl Tryd.ntmps20 rfl ?_
  refine CW.sub (H' := SH w [] []) ?_ (Sub.refl _) (fun x hx => SH.start' _ _ hx)
  refine CW.seq (CW.region ?_)
  refine RW.assign rfl rfl ?_
  refine RW.nil (EX.seq (CW.seq (CW.seq (CW.region ?_))))
  refine RW.move rfl rfl ?_
  refine RW.lenSl Tryd.underlying29 rfl rfl ?_
  refine RW.eqlI rfl rfl rfl ?_
  refine RW.nil (EX.seq ?_)
  -- mq: cond
  first | refine CW.condD rfl (fun h8 => ?_) (fun h8 => ?_) | refine CW.cond rfl (fun h8 => ?_) (fun h8 => ?_)
  · skip
    refine CW.seq (CW.region ?_)
    refine RW.buildSlc sl29 rfl rfl rfl rfl (fun g9 hg9 hf9 => ?_)
    refine RW.assign rfl rfl ?_
    refine RW.nil (EX.seq (CW.ret (EX.seqR ?_)))
    refine EX.fin1 Tryd.results20 rfl (fun wz hw => ?_)
    -- mq: done
    have hg : g = [] := List.eq_nil_of_length_eq_zero (by omega)
    rw [cleanG, if_pos hg]
    have hrd := Rd.of_blk (E := EInt) (L := [-1]) hw Has.head rfl (by decide)
    exact ⟨_, _, _, rfl, hw.ext, hrd.weak (fun k hk => by rw [hk]; exact hg9)⟩
  · skip
    refine CW.skip (EX.seq (CW.seq ?_))
    -- mq: region
    refine CW.ownNil 3 1 ?_
    refine CW.region ?_
    refine RW.assign rfl rfl ?_
    refine RW.nil (EX.seq (CW.seq (CW.seq ?_)))
    -- mq: region
    refine CW.region ?_
    refine RW.move rfl rfl ?_
    refine RW.move rfl rfl ?_
    refine RW.lenSl Tryd.underlying29 rfl rfl ?_
    refine RW.min2 rfl rfl rfl ?_
    -- mq: at
    obtain ⟨m, hm⟩ : ∃ m, m = min n 8 := ⟨_, rfl⟩
    refine RW.sliceSl 0 m sl29 rfl rfl (.inr ⟨rfl, rfl⟩) (.inl ⟨_, _, rfl, rfl, by omega⟩) (by omega) (by omega) ?_
    have hcut := hr.cut (p := 0) (q := m) (by omega) (by omega)
    generalize hAo : (if c = 0 then A else A.map (·.add (0 * 1))) = Ao
    rw [show EInt.sz = 1 from rfl, hAo] at hcut
    rw [Nat.sub_zero, Nat.sub_zero] at *
    rw [List.drop_zero] at hcut
    have hgt : (g.take m).length = m := by rw [List.length_take]; omega
    have hres : cleanG g = (g.take m).map cleanN := by
      rw [cleanG, if_neg (fun e => by rw [e] at hl; simp at hl; omega)]
      congr 1
      rw [hm]
      by_cases h : n ≤ 8
      · rw [Nat.min_eq_left h, List.take_of_length_le (by omega), List.take_of_length_le (by omega)]
      · rw [Nat.min_eq_right (by omega)]
    refine RW.lenSl Tryd.underlying29 rfl rfl ?_
    refine RW.move rfl rfl ?_
    refine RW.nil (EX.seq (CW.block ?_))
    -- mq: loop
    refine CW.loop (ι := Nat × Value) (fun t => [(3, t.2), (14, .slice Ao m c), (15, .int .i64 (m : Int)), (16, .int .i64 (t.1 : Int))]) (fun t => SH w [] [own 3 1 t.2 t.1 (EInt.all (((g.take m).take t.1).map cleanN))]) (fun t => t.1 ≤ m) (fun t => m - t.1) ?_ ?_
    · exact fun w' hw' => ⟨(0, .slice none 0 0), Nat.zero_le _, (by repeat (first | exact Sub.nil | refine Sub.cons (by rfl) ?_)), hw'⟩
    · rintro ⟨k, v⟩ hk
      dsimp only at hk ⊢
      refine CW.seq (CW.region ?_)
      refine RW.lss rfl rfl rfl ?_
      refine RW.nil (EX.seq (CW.seq ?_))
      -- mq: cond
      first | refine CW.condD rfl (fun hlt => ?_) (fun hlt => ?_) | refine CW.cond rfl (fun hlt => ?_) (fun hlt => ?_)
      · skip
        obtain ⟨x, hx⟩ : ∃ x, (g.take m)[k]? = some x := ⟨(g.take m)[k]'(by omega), List.getElem?_eq_getElem _⟩
        obtain ⟨ad, hA, _, hcell⟩ := hcut.at_ hx
        refine CW.skip (EX.seq (CW.seq (CW.block (CW.seq (CW.region ?_)))))
        refine RW.ixAddr (q := k) sl29 rfl rfl rfl (by first | rfl | assumption) (by omega) (by omega) ?_
        refine RW.load1 sc3 rfl rfl (fun w' hw' => hw'.base_cell (hcell 0 _ rfl) (by simp)) ?_
        refine RW.assign rfl rfl ?_
        refine RW.nil (EX.seq (CW.region ?_))
        refine RW.move rfl rfl ?_
        refine RW.move rfl rfl ?_
        -- mq: op 2: ('Op.call', ('Call.mk', ('Callee.value', ('Operand.func', '28')), ('arr', ('Operand.tmp', '21')), ('arr', '3'))) -> slot 22 ("param.go:67")
        refine RW.callP rfl ca28 rfl (fun w' _ => clean_c w' x) ?_
        refine RW.buildSlc sl29 rfl rfl rfl rfl (fun g23 hg23 hf23 => ?_)
        refine RW.append1 sl29 rfl rfl rfl (by first | exact Rem.head | exact Rem.tail Rem.head | exact Rem.tail (Rem.tail Rem.head) | exact Rem.tail (Rem.tail (Rem.tail Rem.head)) | exact Rem.tail (Rem.tail (Rem.tail (Rem.tail Rem.head))) | exact Rem.tail (Rem.tail (Rem.tail (Rem.tail (Rem.tail Rem.head)))) | exact Rem.tail (Rem.tail (Rem.tail (Rem.tail (Rem.tail (Rem.tail Rem.head)))))) (fun _ => by first | exact Upd.head | exact Upd.tail Upd.head | exact Upd.tail (Upd.tail Upd.head) | exact Upd.tail (Upd.tail (Upd.tail Upd.head)) | exact Upd.tail (Upd.tail (Upd.tail (Upd.tail Upd.head))) | exact Upd.tail (Upd.tail (Upd.tail (Upd.tail (Upd.tail Upd.head)))) | exact Upd.tail (Upd.tail (Upd.tail (Upd.tail (Upd.tail (Upd.tail Upd.head)))))) rfl (by repeat (first | exact Ones.nil | exact Enc.ones _ _ | refine Ones.cons rfl ?_)) (by simp only [maxLen]; omega) (by omega) (fun v24 hv24 => ?_)
        refine RW.assign rfl rfl ?_
        refine RW.nil (EX.bkN (EX.seq (CW.region ?_)))
        refine RW.add rfl rfl rfl (wrap64 (by omega) (by omega)) ?_
        refine RW.move rfl rfl ?_
        refine RW.nil ?_
        -- mq: loopend
        refine EX.lpN (k + 1, v24) (by dsimp only; omega) (by dsimp only; omega) (by repeat (first | exact Sub.nil | refine Sub.cons (by rfl) ?_)) (fun w' hw' => ?_)
        dsimp only
        rw [take_snoc' hx, List.map_append, List.map_cons, List.map_nil, Enc.all_snoc EInt]
        exact hw'
      · skip
        have hkm : k = m := by omega
        subst hkm
        refine CW.exit (EX.seqE (EX.lpE (EX.bkE (EX.seq (CW.seq (CW.region ?_))))))
        refine RW.move rfl rfl ?_
        refine RW.assign rfl rfl ?_
        refine RW.nil (EX.seq (CW.ret ?_))
        refine EX.fin1 Tryd.results20 rfl (fun wz hw => ?_)
        -- mq: done
        rw [hres]
        rw [List.take_of_length_le (by omega)] at hw
        obtain ⟨A6, c6, he6, hrd6⟩ := Rd.of_own (E := EInt) (hw.has Has.head) (by rw [List.length_map]; exact hgt)
        exact ⟨_, _, _, congrArg _ he6, hw.ext, hrd6.weak (fun k hk => by
          rcases Nat.lt_or_ge k w.heap.size with h | h
          · have := hw.cov k (by rw [feet_cons]; exact List.mem_append.2 (.inl (Option.mem_toList.2 hk))) h
            cases this
          · exact h)⟩
theorem cleanG_length (g : List Int) : (cleanG g).length ≤ 8 := by
  unfold cleanG
  split
  · simp
  · rw [List.length_map, List.length_take]; omega
theorem cleanF_length (gs : List (List Int)) : (cleanF gs).length ≤ 32 := by
  unfold cleanF
  split
  · simp
  · rw [List.length_map, List.length_take]; omega
theorem cleanF_mem (gs : List (List Int)) : ∀ g ∈ cleanF gs, 1 ≤ g.length ∧ g.length ≤ 8 := by
  intro g hg
  have hc : ∀ x : List Int, 1 ≤ (cleanG x).length := fun x => by
    unfold cleanG
    split
    · simp
    · rename_i h
      have : x.length ≠ 0 := fun e => h (List.eq_nil_of_length_eq_zero e)
      rw [List.length_map, List.length_take]; omega
  unfold cleanF at hg
  split at hg
  · rw [List.mem_singleton.1 hg]; simp
  · obtain ⟨x, _, rfl⟩ := List.mem_map.1 hg
    exact ⟨hc x, cleanG_length x⟩
theorem Clean_c (w : World) (F : Nat → Prop) (A : Option Addr) (n c : Nat) (gs : List (List Int)) (hr : RdG w F A n c gs) (hn : n ≤ 1000000) (hm : ∀ g ∈ gs, g.length ≤ 1000000) :
    Calls Tryd.prog 11 [.slice A n c].toArray w (RetG w (cleanF gs)) := by
  have hl := hr.len
  have hcap := hr.cap'
  refine calls (n := 28) Tryd.func11 rfl Tryd.ntmps11 rfl ?_
  refine CW.sub (H' := SH w [] []) ?_ (Sub.refl _) (fun x hx => SH.start' _ _ hx)
  refine CW.seq (CW.region ?_)
  refine RW.assign rfl rfl ?_
  refine RW.nil (EX.seq (CW.seq (CW.seq (CW.region ?_))))
  refine RW.move rfl rfl ?_
  refine RW.lenSl Tryd.underlying22 rfl rfl ?_
  refine RW.eqlI rfl rfl rfl ?_
  refine RW.nil (EX.seq ?_)
  -- mq: cond
  first | refine CW.condD rfl (fun h8 => ?_) (fun h8 => ?_) | refine CW.cond rfl (fun h8 => ?_) (fun h8 => ?_)
  · skip
    refine CW.seq (CW.region ?_)
    refine RW.buildSlc sl29 rfl rfl rfl rfl (fun g9 hg9 hf9 => ?_)
    refine RW.buildSlc sl22 rfl rfl rfl rfl (fun g10 hg10 hf10 => ?_)
    refine RW.assign rfl rfl ?_
    refine RW.nil (EX.seq (CW.ret (EX.seqR ?_)))
    refine EX.fin1 Tryd.results11 rfl (fun wz hw => ?_)
    -- mq: done
    have hg : gs = [] := List.eq_nil_of_length_eq_zero (by omega)
    rw [cleanF, if_pos hg]
    have hrd := Rd.of_blk (E := EInt) (L := [-1]) hw (Has.tail Has.head) rfl (by decide)
    have hro := Rd.of_blk (E := ESl) (L := [⟨some ⟨g9, 0, none⟩, 1, 1⟩]) hw Has.head rfl (by show 1 ≤ maxLen; decide)
    refine ⟨_, _, _, rfl, hw.ext, [⟨some ⟨g9, 0, none⟩, 1, 1⟩], hro.weak (fun k hk => by rw [hk]; exact hg10), rfl, fun k s g hs hg => ?_⟩
    cases k with
    | zero =>
      simp only [List.getElem?_cons_zero, Option.some.injEq] at hs hg
      subst hs; subst hg
      exact hrd.weak (fun k hk => by rw [hk]; exact hg9)
    | succ k => simp at hs
  · skip
    refine CW.skip (EX.seq (CW.seq ?_))
    -- mq: region
    refine CW.ownNil 29 1 ?_
    refine CW.region ?_
    refine RW.assign rfl rfl ?_
    refine RW.nil (EX.seq (CW.seq (CW.seq ?_)))
    -- mq: region
    refine CW.region ?_
    refine RW.move rfl rfl ?_
    refine RW.move rfl rfl ?_
    refine RW.lenSl Tryd.underlying22 rfl rfl ?_
    refine RW.min2 rfl rfl rfl ?_
    -- mq: at
    obtain ⟨m, hm2⟩ : ∃ m, m = min n 32 := ⟨_, rfl⟩
    refine RW.sliceSl 0 m sl22 rfl rfl (.inr ⟨rfl, rfl⟩) (.inl ⟨_, _, rfl, rfl, by omega⟩) (by omega) (by omega) ?_
    have hcut := hr.cut (p := 0) (q := m) (by omega) (by omega)
    generalize hAo : (if c = 0 then A else A.map (·.add (0 * 1))) = Ao at hcut
    rw [Nat.sub_zero, Nat.sub_zero] at *
    rw [List.drop_zero] at hcut
    have hgt : (gs.take m).length = m := by rw [List.length_take]; omega
    have hres : cleanF gs = (gs.take m).map cleanG := by
      rw [cleanF, if_neg (fun e => by rw [e] at hl; simp at hl; omega)]
      congr 1
      rw [hm2]
      by_cases h : n ≤ 32
      · rw [Nat.min_eq_left h, List.take_of_length_le (by omega), List.take_of_length_le (by omega)]
      · rw [Nat.min_eq_right (by omega)]
    have hcutS := hcut.strong
    refine RW.lenSl Tryd.underlying22 rfl rfl ?_
    refine RW.move rfl rfl ?_
    refine RW.nil (EX.seq (CW.block ?_))
    -- mq: loop
    refine CW.loop (ι := Nat × Value × List SlV) (fun t => [(3, t.2.1), (15, .slice Ao m c), (16, .int .i64 (m : Int)), (17, .int .i64 (t.1 : Int))]) (fun t => StO w t.2.1 t.2.2 (((gs.take m).take t.1).map cleanG)) (fun t => t.1 ≤ m ∧ t.2.2.length = t.1) (fun t => m - t.1) ?_ ?_
    · exact fun w' hw' => ⟨(0, .slice none 0 0, []), ⟨Nat.zero_le _, rfl⟩, (by repeat (first | exact Sub.nil | refine Sub.cons (by rfl) ?_)), StO.nil hw'⟩
    · rintro ⟨k, v, ss⟩ ⟨hk, hss⟩
      dsimp only at hk hss ⊢
      refine CW.each fun w1 hst => ?_
      obtain ⟨h1, h2, h3, h4, h5⟩ := id hst
      generalize hS : feet [own 29 1 v ss.length (ESl.all ss)] = S at *
      have e1s := h2.size
      refine CW.sub (H' := SH w1 S [own 29 1 v ss.length (ESl.all ss)]) ?_ (Sub.refl _) (fun x hx => hx ▸ h1)
      have hr1 := hcutS.ext h2 (by simp)
      have hin : ∀ k, k < w.heap.size → k ∉ S := fun k hk hk2 => by have := h3 k hk2; omega
      refine CW.seq (CW.region ?_)
      refine RW.lss rfl rfl rfl ?_
      refine RW.nil (EX.seq (CW.seq ?_))
      -- mq: cond
      first | refine CW.condD rfl (fun hlt => ?_) (fun hlt => ?_) | refine CW.cond rfl (fun hlt => ?_) (fun hlt => ?_)
      · skip
        obtain ⟨x, hx⟩ : ∃ x, (gs.take m)[k]? = some x := ⟨(gs.take m)[k]'(by omega), List.getElem?_eq_getElem _⟩
        obtain ⟨ad, B, p, q, hA, had, hcell, hrd⟩ := hr1.at_ hx
        have hxl := hrd.len
        have hxm := hm x (List.mem_of_mem_take (List.mem_of_getElem? hx))
        refine CW.skip (EX.seq (CW.seq (CW.block (CW.seq (CW.region ?_)))))
        refine RW.ixAddr (q := k) sl22 rfl rfl rfl (by first | rfl | assumption) (by omega) (by omega) ?_
        refine RW.load1 sc29 rfl rfl (fun w' hw' => hw'.base_cell hcell (by rw [block_add]; exact hin _ had.2)) ?_
        refine RW.assign rfl rfl ?_
        refine RW.nil (EX.seq (CW.region ?_))
        refine RW.move rfl rfl ?_
        refine RW.move rfl rfl ?_
        -- mq: op 2: ('Op.call', ('Call.mk', ('Callee.value', ('Operand.func', '20')), ('arr', ('Operand.tmp', '22')), ('arr', '29'))) -> slot 23 ("param.go:79")
        refine RW.callK rfl ca20 rfl (fun w' hw' => group_c w' _ B p q x (hrd.ext hw'.ext (fun k hk => hin k hk.2)) (by omega)) (fun w2 w3 A4 n4 c4 hw2 he23 hw3 hlt3 hrd4 => ?_)
        have hn4 := hrd4.len
        have hx13 : Ext S w1 w3 := hw2.ext.trans0 he23
        have e2s := hw2.ext.size
        refine RW.buildSlc sl22 rfl rfl rfl rfl (fun g24 hg24 hf24 => ?_)
        refine RW.append1 sl22 rfl rfl rfl (by first | exact Rem.head | exact Rem.tail Rem.head | exact Rem.tail (Rem.tail Rem.head) | exact Rem.tail (Rem.tail (Rem.tail Rem.head)) | exact Rem.tail (Rem.tail (Rem.tail (Rem.tail Rem.head))) | exact Rem.tail (Rem.tail (Rem.tail (Rem.tail (Rem.tail Rem.head)))) | exact Rem.tail (Rem.tail (Rem.tail (Rem.tail (Rem.tail (Rem.tail Rem.head)))))) (fun _ => by first | exact Upd.head | exact Upd.tail Upd.head | exact Upd.tail (Upd.tail Upd.head) | exact Upd.tail (Upd.tail (Upd.tail Upd.head)) | exact Upd.tail (Upd.tail (Upd.tail (Upd.tail Upd.head))) | exact Upd.tail (Upd.tail (Upd.tail (Upd.tail (Upd.tail Upd.head)))) | exact Upd.tail (Upd.tail (Upd.tail (Upd.tail (Upd.tail (Upd.tail Upd.head)))))) rfl (by repeat (first | exact Ones.nil | exact Enc.ones _ _ | refine Ones.cons rfl ?_)) (by simp only [maxLen]; omega) (by omega) (fun v25 hv25 => ?_)
        refine RW.assign rfl rfl ?_
        refine RW.nil (EX.bkN (EX.seq (CW.region ?_)))
        refine RW.add rfl rfl rfl (wrap64 (by omega) (by omega)) ?_
        refine RW.move rfl rfl ?_
        refine RW.nil ?_
        -- mq: loopend
        refine EX.lpN (k + 1, v25, ss ++ [⟨A4, n4, c4⟩]) ⟨by dsimp only; omega, by simp [hss]⟩ (by dsimp only; omega) (by repeat (first | exact Sub.nil | refine Sub.cons (by rfl) ?_)) (fun w' hw' => ?_)
        dsimp only
        rw [take_snoc' hx, List.map_append, List.map_cons, List.map_nil]
        rw [hS] at hw' hlt3
        exact StO.step hS hst hx13 hw' (hrd4.weak (fun k hk => ⟨by omega, fun hk2 => by have := hlt3 k hk2; omega⟩))
      · skip
        have hkm : k = m := by omega
        subst hkm
        refine CW.exit (EX.seqE (EX.lpE (EX.bkE (EX.seq (CW.seq (CW.region ?_))))))
        refine RW.move rfl rfl ?_
        refine RW.assign rfl rfl ?_
        refine RW.nil (EX.seq (CW.ret ?_))
        refine EX.fin1 Tryd.results11 rfl (fun wz hw => ?_)
        -- mq: done
        rw [hres]
        rw [List.take_of_length_le (by omega)] at hst
        subst hS
        obtain ⟨A6, c6, he6, h7, h8⟩ := StO.ret (StO.later hst hw)
        exact ⟨_, _, _, congrArg _ he6, h7, h8⟩
theorem StO.step2 {w w1 wz : World} {v v' : Value} {ss : List SlV} {gs : List (List Int)} {A : Option Addr} {n c : Nat} {g : List Int} {S : List Nat} (hS : feet [own 29 1 v ss.length (ESl.all ss)] = S) (h : StO w v ss gs w1) (hgn : g.length = n)
    (hz : SH w1 S [own 3 1 (.slice A n c) n (EInt.all g), own 29 1 v' (ss.length + 1) (ESl.all ss ++ ESl.enc (⟨A, n, c⟩ : SlV))] wz) : StO w v' (ss ++ [(⟨A, n, c⟩ : SlV)]) (gs ++ [g]) wz := by
  obtain ⟨h1, h2, h3, h4, h5⟩ := h
  rw [hS] at h3 h5
  have hz2 : SH w1 S [own 29 1 v' (ss ++ [(⟨A, n, c⟩ : SlV)]).length (ESl.all (ss ++ [(⟨A, n, c⟩ : SlV)]))] wz := by
    rw [List.length_append, Enc.all_snoc ESl]; exact hz.rem Rem.head
  have e1 := h2.size
  have hnb : ∀ k, k ∈ feet [own 29 1 v' (ss ++ [(⟨A, n, c⟩ : SlV)]).length (ESl.all (ss ++ [(⟨A, n, c⟩ : SlV)]))] → k ∈ S ∨ w1.heap.size ≤ k := fun k hk => by
    rcases Nat.lt_or_ge k w1.heap.size with h | h
    · exact .inl (hz2.cov k hk h)
    · exact .inr h
  refine ⟨hz2.rebase, h2.trans hz2.ext (fun x hx hlt => absurd (h3 x hx) (by omega)), fun k hk => ?_, by simp [h4], fun k s' g' hs hg => ?_⟩
  · rcases hnb k hk with h | h
    · exact h3 k h
    · omega
  · by_cases hkl : k < ss.length
    · rw [List.getElem?_append_left hkl] at hs
      rw [List.getElem?_append_left (by omega)] at hg
      exact (((h5 k s' g' hs hg).strong (by decide)).ext hz2.ext (fun k hk => hk.1.2)).weak (fun k hk => ⟨hk.1.1, fun hk2 => by
        rcases hnb k hk2 with h | h
        · exact hk.1.2 h
        · have := hk.2; omega⟩)
    · have hk2 : k = ss.length := by
        have := (List.getElem?_eq_some_iff.1 hs).1
        simp at this; omega
      subst hk2
      rw [List.getElem?_append_right (Nat.le_refl _), Nat.sub_self] at hs
      rw [List.getElem?_append_right (by omega), h4, Nat.sub_self] at hg
      simp only [List.getElem?_cons_zero, Option.some.injEq] at hs hg
      subst hs; subst hg
      obtain ⟨A6, c6, he6, hrd6⟩ := Rd.of_own (E := EInt) (hz.has Has.head) hgn
      cases he6
      have hnd := hz.nodup
      refine hrd6.weak (fun k hk => ⟨?_, fun hk2 => ?_⟩)
      · rcases Nat.lt_or_ge k w1.heap.size with h | h
        · exact h3 k (hz.cov k (by rw [feet_cons]; exact List.mem_append.2 (.inl (Option.mem_toList.2 hk))) h)
        · omega
      · rw [feet_cons, List.nodup_append] at hnd
        refine hnd.2.2 k (Option.mem_toList.2 hk) k ?_ rfl
        rw [List.length_append, Enc.all_snoc ESl] at hk2
        exact hk2
theorem refClean_c (w : World) (F : Nat → Prop) (A : Option Addr) (n c : Nat) (gs : List (List Int)) (hr : RdG w F A n c gs) (hn : n ≤ 1000000) (hm : ∀ g ∈ gs, g.length ≤ 1000000) :
    Calls Tryd.prog 8 [.slice A n c].toArray w (RetG w (cleanF gs)) := by
  have hl := hr.len
  have hcap := hr.cap'
  refine calls (n := 64) Tryd.func8 rfl Tryd.ntmps8 rfl ?_
  refine CW.sub (H' := SH w [] []) ?_ (Sub.refl _) (fun x hx => SH.start' _ _ hx)
  refine CW.seq (CW.region ?_)
  refine RW.assign rfl rfl ?_
  refine RW.nil (EX.seq (CW.seq ?_))
  -- mq: region
  refine CW.ownNil 29 1 ?_
  refine CW.region ?_
  refine RW.assign rfl rfl ?_
  refine RW.nil (EX.seq (CW.seq (CW.seq (CW.region ?_))))
  refine RW.assign rfl rfl ?_
  refine RW.nil (EX.seq (CW.block ?_))
  -- mq: loop
  have hrS := hr.strong
  refine CW.loop (ι := Nat × Value × List SlV) (fun t => [(0, .slice A n c), (3, t.2.1), (4, .int .i64 (t.1 : Int))]) (fun t => StO w t.2.1 t.2.2 ((gs.take t.1).map cleanG)) (fun t => t.1 ≤ n ∧ t.1 ≤ 32 ∧ t.2.2.length = t.1) (fun t => n - t.1) ?_ ?_
  · exact fun w' hw' => ⟨(0, .slice none 0 0, []), ⟨Nat.zero_le _, Nat.zero_le _, rfl⟩, (by repeat (first | exact Sub.nil | refine Sub.cons (by rfl) ?_)), StO.nil hw'⟩
  · rintro ⟨k, v, ss⟩ ⟨hk, hk32, hss⟩
    dsimp only at hk hk32 hss ⊢
    refine CW.each fun w1 hst => ?_
    obtain ⟨h1, h2, h3, h4, h5⟩ := id hst
    generalize hS : feet [own 29 1 v ss.length (ESl.all ss)] = S at *
    have e1s := h2.size
    refine CW.sub (H' := SH w1 S [own 29 1 v ss.length (ESl.all ss)]) ?_ (Sub.refl _) (fun x hx => hx ▸ h1)
    have hr1 := hrS.ext h2 (by simp)
    have hin : ∀ k, k < w.heap.size → k ∉ S := fun k hk hk2 => by have := h3 k hk2; omega
    refine CW.seq (CW.seq ?_)
    -- mq: region
    refine CW.join ([(15, .bool (decide (k < n ∧ k < 32))), (0, .slice A n c), (3, v), (4, .int .i64 (k : Int))]) (SH w1 S [own 29 1 v ss.length (ESl.all ss)]) ?_ ?_
    · skip
      refine CW.region ?_
      refine RW.move rfl rfl ?_
      refine RW.move rfl rfl ?_
      refine RW.lenSl Tryd.underlying22 rfl rfl ?_
      refine RW.lss rfl rfl rfl ?_
      refine RW.move rfl rfl ?_
      -- mq: guard slot 12
      refine RW.casesB 12 rfl (fun h12 => ?_) (fun h12 => ?_)
      · skip
        have h12p := of_decide_eq_true h12
        refine RW.guardT rfl rfl h12 ?_
        refine RW.move rfl rfl ?_
        refine RW.guardT rfl rfl h12 ?_
        refine RW.lss rfl rfl rfl ?_
        refine RW.pickB rfl rfl h12 rfl ?_
        refine RW.nil ?_
        -- mq: joinend
        exact EX.jn (Sub.cons (congrArg (fun x => some (Value.bool x)) (by rw [Bool.eq_iff_iff]; simp only [decide_eq_true_eq, Bool.false_eq_true, false_iff]; omega)) (by repeat (first | exact Sub.nil | refine Sub.cons (by rfl) ?_))) (fun _ h => h)
      · skip
        have h12p := of_decide_eq_false h12
        refine RW.guardF rfl rfl rfl h12 ?_
        refine RW.guardF rfl rfl rfl h12 ?_
        refine RW.pickC rfl rfl h12 rfl ?_
        refine RW.nil ?_
        -- mq: joinend
        exact EX.jn (Sub.cons (congrArg (fun x => some (Value.bool x)) (by rw [Bool.eq_iff_iff]; simp only [decide_eq_true_eq, Bool.false_eq_true, false_iff]; omega)) (by repeat (first | exact Sub.nil | refine Sub.cons (by rfl) ?_))) (fun _ h => h)
    · skip
      refine EX.seq ?_
      -- mq: cond
      first | refine CW.condD rfl (fun hlt => ?_) (fun hlt => ?_) | refine CW.cond rfl (fun hlt => ?_) (fun hlt => ?_)
      · skip
        obtain ⟨x, hx⟩ : ∃ x, gs[k]? = some x := ⟨gs[k]'(by omega), List.getElem?_eq_getElem _⟩
        obtain ⟨ad, B, p, q, hA, had, hcell, hrd⟩ := hr1.at_ hx
        have hxl := hrd.len
        have hxm := hm x (List.mem_of_getElem? hx)
        refine CW.skip (EX.seq (CW.seq (CW.block (CW.seq ?_))))
        -- mq: region
        refine CW.ownNil 3 1 ?_
        refine CW.region ?_
        refine RW.assign rfl rfl ?_
        refine RW.nil (EX.seq (CW.seq (CW.seq (CW.region ?_))))
        refine RW.assign rfl rfl ?_
        refine RW.nil (EX.seq (CW.block ?_))
        -- mq: loop
        obtain ⟨m, hm2⟩ : ∃ m, m = min x.length 8 := ⟨_, rfl⟩
        refine CW.loop (ι := Nat × Value) (fun t => [(0, .slice A n c), (3, v), (4, .int .i64 (k : Int)), (5, t.2), (6, .int .i64 (t.1 : Int))]) (fun t => SH w1 S [own 3 1 t.2 t.1 (EInt.all ((x.take t.1).map cleanN)), own 29 1 v ss.length (ESl.all ss)]) (fun t => t.1 ≤ m) (fun t => m - t.1) ?_ ?_
        · exact fun w' hw' => ⟨(0, .slice none 0 0), Nat.zero_le _, (by repeat (first | exact Sub.nil | refine Sub.cons (by rfl) ?_)), hw'⟩
        · rintro ⟨j, u⟩ hj
          dsimp only at hj ⊢
          refine CW.seq (CW.seq ?_)
          -- mq: region
          refine CW.join ([(28, .bool (decide (j < x.length ∧ j < 8))), (0, .slice A n c), (3, v), (4, .int .i64 (k : Int)), (5, u), (6, .int .i64 (j : Int))]) (SH w1 S [own 3 1 u j (EInt.all ((x.take j).map cleanN)), own 29 1 v ss.length (ESl.all ss)]) ?_ ?_
          · skip
            refine CW.region ?_
            refine RW.move rfl rfl ?_
            refine RW.move rfl rfl ?_
            refine RW.move rfl rfl ?_
            refine RW.ixAddr (q := k) sl22 rfl rfl rfl (by first | rfl | assumption) (by omega) (by omega) ?_
            refine RW.load1 sc29 rfl rfl (fun w' hw' => hw'.base_cell hcell (by rw [block_add]; exact hin _ had.2)) ?_
            refine RW.lenSl Tryd.underlying29 rfl rfl ?_
            refine RW.lss rfl rfl rfl ?_
            refine RW.move rfl rfl ?_
            -- mq: guard slot 25
            refine RW.casesB 25 rfl (fun h25 => ?_) (fun h25 => ?_)
            · skip
              have h25p := of_decide_eq_true h25
              refine RW.guardT rfl rfl h25 ?_
              refine RW.move rfl rfl ?_
              refine RW.guardT rfl rfl h25 ?_
              refine RW.lss rfl rfl rfl ?_
              refine RW.pickB rfl rfl h25 rfl ?_
              refine RW.nil ?_
              -- mq: joinend
              exact EX.jn (Sub.cons (congrArg (fun x => some (Value.bool x)) (by rw [Bool.eq_iff_iff]; simp only [decide_eq_true_eq, Bool.false_eq_true, false_iff]; omega)) (by repeat (first | exact Sub.nil | refine Sub.cons (by rfl) ?_))) (fun _ h => h)
            · skip
              have h25p := of_decide_eq_false h25
              refine RW.guardF rfl rfl rfl h25 ?_
              refine RW.guardF rfl rfl rfl h25 ?_
              refine RW.pickC rfl rfl h25 rfl ?_
              refine RW.nil ?_
              -- mq: joinend
              exact EX.jn (Sub.cons (congrArg (fun x => some (Value.bool x)) (by rw [Bool.eq_iff_iff]; simp only [decide_eq_true_eq, Bool.false_eq_true, false_iff]; omega)) (by repeat (first | exact Sub.nil | refine Sub.cons (by rfl) ?_))) (fun _ h => h)
          · skip
            refine EX.seq ?_
            -- mq: cond
            first | refine CW.condD rfl (fun hlt2 => ?_) (fun hlt2 => ?_) | refine CW.cond rfl (fun hlt2 => ?_) (fun hlt2 => ?_)
            · skip
              obtain ⟨y, hy⟩ : ∃ y, x[j]? = some y := ⟨x[j]'(hlt2.1), List.getElem?_eq_getElem _⟩
              obtain ⟨yd, hB, hyd, hycell⟩ := hrd.at_ hy
              refine CW.skip (EX.seq (CW.seq (CW.block (CW.seq (CW.region ?_)))))
              refine RW.move rfl rfl ?_
              refine RW.move rfl rfl ?_
              refine RW.ixAddr (q := k) sl22 rfl rfl rfl (by first | rfl | assumption) (by omega) (by omega) ?_
              refine RW.load1 sc29 rfl rfl (fun w' hw' => hw'.base_cell hcell (by rw [block_add]; exact hin _ had.2)) ?_
              refine RW.move rfl rfl ?_
              refine RW.ixAddr (q := j) sl29 rfl rfl rfl (by first | rfl | assumption) (by omega) (by omega) ?_
              refine RW.load1 sc3 rfl rfl (fun w' hw' => hw'.base_cell (hycell 0 _ rfl) (by simp only [block_add]; exact hin _ hyd.2)) ?_
              refine RW.assign rfl rfl ?_
              refine RW.nil (EX.seq (CW.seq ?_))
              -- mq: seq
              refine CW.join ([(7, .int .i64 (max (-1) y)), (0, .slice A n c), (3, v), (4, .int .i64 (k : Int)), (5, u), (6, .int .i64 (j : Int))]) (SH w1 S [own 3 1 u j (EInt.all ((x.take j).map cleanN)), own 29 1 v ss.length (ESl.all ss)]) ?_ ?_
              · skip
                refine CW.seq (CW.region ?_)
                refine RW.move rfl rfl ?_
                refine RW.lss rfl rfl rfl ?_
                refine RW.nil (EX.seq ?_)
                -- mq: cond
                first | refine CW.condD rfl (fun h39 => ?_) (fun h39 => ?_) | refine CW.cond rfl (fun h39 => ?_) (fun h39 => ?_)
                · skip
                  refine CW.region ?_
                  refine RW.assign rfl rfl ?_
                  refine RW.nil ?_
                  -- mq: joinend
                  exact EX.jn (Sub.cons (congrArg (fun x => some (Value.int .i64 x)) (by omega)) (by repeat (first | exact Sub.nil | refine Sub.cons (by rfl) ?_))) (fun _ h => h)
                · skip
                  refine CW.skip ?_
                  -- mq: joinend
                  exact EX.jn (Sub.cons (congrArg (fun x => some (Value.int .i64 x)) (by omega)) (by repeat (first | exact Sub.nil | refine Sub.cons (by rfl) ?_))) (fun _ h => h)
              · skip
                refine EX.seq (CW.seq ?_)
                -- mq: seq
                refine CW.join ([(7, .int .i64 (cleanN y)), (0, .slice A n c), (3, v), (4, .int .i64 (k : Int)), (5, u), (6, .int .i64 (j : Int))]) (SH w1 S [own 3 1 u j (EInt.all ((x.take j).map cleanN)), own 29 1 v ss.length (ESl.all ss)]) ?_ ?_
                · skip
                  refine CW.seq (CW.region ?_)
                  refine RW.move rfl rfl ?_
                  refine RW.gtr rfl rfl rfl ?_
                  refine RW.nil (EX.seq ?_)
                  -- mq: cond
                  first | refine CW.condD rfl (fun h41 => ?_) (fun h41 => ?_) | refine CW.cond rfl (fun h41 => ?_) (fun h41 => ?_)
                  · skip
                    refine CW.region ?_
                    refine RW.assign rfl rfl ?_
                    refine RW.nil ?_
                    -- mq: joinend
                    exact EX.jn (Sub.cons (congrArg (fun x => some (Value.int .i64 x)) (by unfold cleanN; omega)) (by repeat (first | exact Sub.nil | refine Sub.cons (by rfl) ?_))) (fun _ h => h)
                  · skip
                    refine CW.skip ?_
                    -- mq: joinend
                    exact EX.jn (Sub.cons (congrArg (fun x => some (Value.int .i64 x)) (by unfold cleanN; omega)) (by repeat (first | exact Sub.nil | refine Sub.cons (by rfl) ?_))) (fun _ h => h)
                · skip
                  have hjm : j < 8 := hlt2.2
                  have hjx : j < x.length := hlt2.1
                  refine EX.seq (CW.region ?_)
                  refine RW.move rfl rfl ?_
                  refine RW.move rfl rfl ?_
                  refine RW.buildSlc sl29 rfl rfl rfl rfl (fun g44 hg44 hf44 => ?_)
                  refine RW.append1 sl29 rfl rfl rfl (by first | exact Rem.head | exact Rem.tail Rem.head | exact Rem.tail (Rem.tail Rem.head) | exact Rem.tail (Rem.tail (Rem.tail Rem.head)) | exact Rem.tail (Rem.tail (Rem.tail (Rem.tail Rem.head))) | exact Rem.tail (Rem.tail (Rem.tail (Rem.tail (Rem.tail Rem.head)))) | exact Rem.tail (Rem.tail (Rem.tail (Rem.tail (Rem.tail (Rem.tail Rem.head)))))) (fun _ => by first | exact Upd.head | exact Upd.tail Upd.head | exact Upd.tail (Upd.tail Upd.head) | exact Upd.tail (Upd.tail (Upd.tail Upd.head)) | exact Upd.tail (Upd.tail (Upd.tail (Upd.tail Upd.head))) | exact Upd.tail (Upd.tail (Upd.tail (Upd.tail (Upd.tail Upd.head)))) | exact Upd.tail (Upd.tail (Upd.tail (Upd.tail (Upd.tail (Upd.tail Upd.head)))))) rfl (by repeat (first | exact Ones.nil | exact Enc.ones _ _ | refine Ones.cons rfl ?_)) (by simp only [maxLen]; omega) (by omega) (fun v45 hv45 => ?_)
                  refine RW.assign rfl rfl ?_
                  refine RW.nil (EX.bkN (EX.seq (CW.region ?_)))
                  refine RW.move rfl rfl ?_
                  refine RW.add rfl rfl rfl (wrap64 (by omega) (by omega)) ?_
                  refine RW.assign rfl rfl ?_
                  refine RW.nil ?_
                  -- mq: loopend
                  refine EX.lpN (j + 1, v45) (by dsimp only; omega) (by dsimp only; omega) (by repeat (first | exact Sub.nil | refine Sub.cons (by rfl) ?_)) (fun w' hw' => ?_)
                  dsimp only
                  rw [take_snoc' hy, List.map_append, List.map_cons, List.map_nil, Enc.all_snoc EInt]
                  exact hw'
            · skip
              have hlt2' : ¬ (j < x.length ∧ j < 8) := hlt2
              have hjm : j = m := by omega
              refine CW.exit (EX.seqE (EX.lpE (EX.bkE (EX.seq (CW.seq ?_)))))
              -- mq: seq
              refine CW.joinI (fun u' : Value => [(0, .slice A n c), (3, v), (4, .int .i64 (k : Int)), (5, u')]) (fun u' => SH w1 S [own 3 1 u' (cleanG x).length (EInt.all (cleanG x)), own 29 1 v ss.length (ESl.all ss)]) (fun _ => True) ?_ ?_
              · skip
                refine CW.formOwn (v := u) Has.head (fun Au cu hvu hcapu hmaxu hlenu hgu => ?_)
                subst hvu
                refine CW.seq (CW.region ?_)
                refine RW.move rfl rfl ?_
                refine RW.lenSl Tryd.underlying29 rfl rfl ?_
                refine RW.eqlI rfl rfl rfl ?_
                refine RW.nil (EX.seq ?_)
                -- mq: cond
                first | refine CW.condD rfl (fun h48 => ?_) (fun h48 => ?_) | refine CW.cond rfl (fun h48 => ?_) (fun h48 => ?_)
                · skip
                  have hx0 : x = [] := List.eq_nil_of_length_eq_zero (by omega)
                  have hj0 : j = 0 := by omega
                  subst hj0
                  refine CW.region ?_
                  refine RW.move rfl rfl ?_
                  refine RW.buildSlc sl29 rfl rfl rfl rfl (fun g50 hg50 hf50 => ?_)
                  refine RW.append1 sl29 rfl rfl rfl (by first | exact Rem.head | exact Rem.tail Rem.head | exact Rem.tail (Rem.tail Rem.head) | exact Rem.tail (Rem.tail (Rem.tail Rem.head)) | exact Rem.tail (Rem.tail (Rem.tail (Rem.tail Rem.head))) | exact Rem.tail (Rem.tail (Rem.tail (Rem.tail (Rem.tail Rem.head)))) | exact Rem.tail (Rem.tail (Rem.tail (Rem.tail (Rem.tail (Rem.tail Rem.head)))))) (fun _ => by first | exact Upd.head | exact Upd.tail Upd.head | exact Upd.tail (Upd.tail Upd.head) | exact Upd.tail (Upd.tail (Upd.tail Upd.head)) | exact Upd.tail (Upd.tail (Upd.tail (Upd.tail Upd.head))) | exact Upd.tail (Upd.tail (Upd.tail (Upd.tail (Upd.tail Upd.head)))) | exact Upd.tail (Upd.tail (Upd.tail (Upd.tail (Upd.tail (Upd.tail Upd.head)))))) rfl (by repeat (first | exact Ones.nil | exact Enc.ones _ _ | refine Ones.cons rfl ?_)) (by simp only [maxLen]; omega) (by omega) (fun v51 hv51 => ?_)
                  refine RW.assign rfl rfl ?_
                  refine RW.nil ?_
                  -- mq: joinend
                  refine EX.jnI v51 trivial (by repeat (first | exact Sub.nil | refine Sub.cons (by rfl) ?_)) (fun w' hw' => ?_)
                  rw [cleanG, if_pos hx0]
                  exact hw'
                · skip
                  refine CW.skip ?_
                  -- mq: joinend
                  refine EX.jnI (.slice Au j cu) trivial (by repeat (first | exact Sub.nil | refine Sub.cons (by rfl) ?_)) (fun w' hw' => ?_)
                  have hG : cleanG x = (x.take j).map cleanN := by
                    rw [cleanG, if_neg (fun e => by rw [e] at hm2; simp at hm2; omega)]
                    congr 1
                    rw [hjm, hm2]
                    by_cases h : x.length ≤ 8
                    · rw [Nat.min_eq_left h, List.take_of_length_le (by omega), List.take_length]
                    · rw [Nat.min_eq_right (by omega)]
                  have hGl : (cleanG x).length = j := by rw [hG, List.length_map, List.length_take]; omega
                  rw [hGl, hG]
                  exact hw'
              · skip
                rintro u' -
                refine EX.formOwn1 (v := u') Has.head (fun Au cu hvu => ?_)
                subst hvu
                refine EX.seq (CW.region ?_)
                refine RW.move rfl rfl ?_
                refine RW.move rfl rfl ?_
                refine RW.buildSlc sl22 rfl rfl rfl rfl (fun g54 hg54 hf54 => ?_)
                refine RW.append1 sl22 rfl rfl rfl (by first | exact Rem.head | exact Rem.tail Rem.head | exact Rem.tail (Rem.tail Rem.head) | exact Rem.tail (Rem.tail (Rem.tail Rem.head)) | exact Rem.tail (Rem.tail (Rem.tail (Rem.tail Rem.head))) | exact Rem.tail (Rem.tail (Rem.tail (Rem.tail (Rem.tail Rem.head)))) | exact Rem.tail (Rem.tail (Rem.tail (Rem.tail (Rem.tail (Rem.tail Rem.head)))))) (fun _ => by first | exact Upd.head | exact Upd.tail Upd.head | exact Upd.tail (Upd.tail Upd.head) | exact Upd.tail (Upd.tail (Upd.tail Upd.head)) | exact Upd.tail (Upd.tail (Upd.tail (Upd.tail Upd.head))) | exact Upd.tail (Upd.tail (Upd.tail (Upd.tail (Upd.tail Upd.head)))) | exact Upd.tail (Upd.tail (Upd.tail (Upd.tail (Upd.tail (Upd.tail Upd.head)))))) rfl (by repeat (first | exact Ones.nil | exact Enc.ones _ _ | refine Ones.cons rfl ?_)) (by simp only [maxLen]; omega) (by omega) (fun v55 hv55 => ?_)
                refine RW.assign rfl rfl ?_
                refine RW.nil (EX.bkN (EX.seq (CW.region ?_)))
                refine RW.move rfl rfl ?_
                refine RW.add rfl rfl rfl (wrap64 (by omega) (by omega)) ?_
                refine RW.assign rfl rfl ?_
                refine RW.nil ?_
                -- mq: loopend
                refine EX.lpN (k + 1, v55, ss ++ [⟨Au, (cleanG x).length, cu⟩]) ⟨by dsimp only; omega, by dsimp only; omega, by simp [hss]⟩ (by dsimp only; omega) (by repeat (first | exact Sub.nil | refine Sub.cons (by rfl) ?_)) (fun w' hw' => ?_)
                dsimp only
                rw [take_snoc' hx, List.map_append, List.map_cons, List.map_nil]
                exact StO.step2 hS hst rfl hw'
      · skip
        have hlt' : ¬ (k < n ∧ k < 32) := hlt
        refine CW.formOwn (v := v) Has.head (fun A3 c3 hv3 hcap3 hmax3 hlen3 hg3 => ?_)
        subst hv3
        refine CW.exit (EX.seqE (EX.lpE (EX.bkE (EX.seq (CW.seq (CW.seq (CW.region ?_)))))))
        refine RW.move rfl rfl ?_
        refine RW.lenSl Tryd.underlying22 rfl rfl ?_
        refine RW.eqlI rfl rfl rfl ?_
        refine RW.nil (EX.seq ?_)
        -- mq: cond
        first | refine CW.condD rfl (fun h58 => ?_) (fun h58 => ?_) | refine CW.cond rfl (fun h58 => ?_) (fun h58 => ?_)
        · skip
          have hs0 : ss.length = 0 := by omega
          have hg0 : gs = [] := List.eq_nil_of_length_eq_zero (by omega)
          have hss0 : ss = [] := List.eq_nil_of_length_eq_zero hs0
          refine CW.region ?_
          refine RW.move rfl rfl ?_
          refine RW.buildSlc sl29 rfl rfl rfl rfl (fun g60 hg60 hf60 => ?_)
          refine RW.buildSlc sl22 rfl rfl rfl rfl (fun g61 hg61 hf61 => ?_)
          refine RW.append1 sl22 rfl rfl rfl (by first | exact Rem.head | exact Rem.tail Rem.head | exact Rem.tail (Rem.tail Rem.head) | exact Rem.tail (Rem.tail (Rem.tail Rem.head)) | exact Rem.tail (Rem.tail (Rem.tail (Rem.tail Rem.head))) | exact Rem.tail (Rem.tail (Rem.tail (Rem.tail (Rem.tail Rem.head)))) | exact Rem.tail (Rem.tail (Rem.tail (Rem.tail (Rem.tail (Rem.tail Rem.head)))))) (fun _ => by first | exact Upd.head | exact Upd.tail Upd.head | exact Upd.tail (Upd.tail Upd.head) | exact Upd.tail (Upd.tail (Upd.tail Upd.head)) | exact Upd.tail (Upd.tail (Upd.tail (Upd.tail Upd.head))) | exact Upd.tail (Upd.tail (Upd.tail (Upd.tail (Upd.tail Upd.head)))) | exact Upd.tail (Upd.tail (Upd.tail (Upd.tail (Upd.tail (Upd.tail Upd.head)))))) rfl (by repeat (first | exact Ones.nil | exact Enc.ones _ _ | refine Ones.cons rfl ?_)) (by simp only [maxLen]; omega) (by omega) (fun v62 hv62 => ?_)
          refine RW.assign rfl rfl ?_
          refine RW.nil (EX.seq (CW.seq (CW.region ?_)))
          refine RW.move rfl rfl ?_
          refine RW.assign rfl rfl ?_
          refine RW.nil (EX.seq (CW.ret ?_))
          refine EX.fin1 Tryd.results8 rfl (fun wz hw => ?_)
          -- mq: done
          subst hg0
          subst hss0
          have hw2 := hw.ownBlk (m := 1) (sz := 1) (by first | exact Upd.head | exact Upd.tail Upd.head | exact Upd.tail (Upd.tail Upd.head) | exact Upd.tail (Upd.tail (Upd.tail Upd.head)) | exact Upd.tail (Upd.tail (Upd.tail (Upd.tail Upd.head))) | exact Upd.tail (Upd.tail (Upd.tail (Upd.tail (Upd.tail Upd.head)))) | exact Upd.tail (Upd.tail (Upd.tail (Upd.tail (Upd.tail (Upd.tail Upd.head)))))) rfl (by decide)
          have hst2 := StO.step2 (g := [-1]) hS hst rfl hw2
          obtain ⟨A6, c6, he6, h7, h8⟩ := StO.ret hst2
          rw [cleanF, if_pos rfl]
          exact ⟨_, _, _, congrArg _ he6, h7, by simpa using h8⟩
        · skip
          refine CW.skip (EX.seq (CW.seq (CW.region ?_)))
          refine RW.move rfl rfl ?_
          refine RW.assign rfl rfl ?_
          refine RW.nil (EX.seq (CW.ret ?_))
          refine EX.fin1 Tryd.results8 rfl (fun wz hw => ?_)
          -- mq: done
          have hres : cleanF gs = (gs.take k).map cleanG := by
            rw [cleanF, if_neg (fun e => by rw [e] at hl; simp at hl; omega)]
            congr 1
            by_cases h : n ≤ 32
            · rw [List.take_of_length_le (by omega), List.take_of_length_le (by omega)]
            · rw [show k = 32 by omega]
          subst hS
          obtain ⟨A6, c6, he6, h7, h8⟩ := StO.ret (StO.later hst hw)
          rw [hres]
          exact ⟨_, _, _, congrArg _ he6, h7, h8⟩
end Go.Proofs.YtamchppifbilpaaDoor.Mq
