/- modes: the reference's All, First, Has, With, Name; Same; awake -/
import Derived.Test.YtpjehphcpegajaaDoorMd2
import Derived.Test.YtpjehphcpegajaaDoorDig
import Derived.Test.YtpjehphcpegajaaDoorCallA
namespace Go.Proofs.YtpjehphcpegajaaDoor.Mq
open Go Go.RowKit Go.Proofs

def allL : List (List UInt8) := [[52], [50, 48], [63, 49], [63, 53], [63, 54], [63, 55], [63, 50, 53], [63, 52, 55], [63, 54, 54], [63, 49, 48, 48, 48], [63, 49, 48, 48, 50], [63, 49, 48, 48, 51], [63, 49, 48, 48, 52], [63, 49, 48, 48, 54], [63, 49, 48, 52, 55], [63, 49, 48, 52, 56], [63, 49, 48, 52, 57], [63, 50, 48, 48, 52]]
theorem allL_eq : (List.range 18).map nameAt = allL := by
  simp [List.range_succ, nameAt, nameL, numsL, Lib.itoa, Lib.decDigits, allL]
theorem refAll_c (w : World) : Calls Tryd.prog 18 [].toArray w (RetSl EStr w allL) := by
  refine calls (n := 2) Tryd.func18 rfl Tryd.ntmps18 rfl ?_
  refine CW.sub (H' := SH w [] []) ?_ (Sub.refl _) (fun x hx => SH.start' _ _ hx)
  refine CW.seq (CW.region ?_)
  refine RW.assign rfl rfl ?_
  refine RW.nil (EX.seq (CW.seq (CW.region ?_)))
  refine RW.buildSlc sl28 rfl rfl rfl rfl (fun g1 hg1 hf1 => ?_)
  refine RW.assign rfl rfl ?_
  refine RW.nil (EX.seq (CW.ret ?_))
  refine EX.fin1 Tryd.results18 rfl (fun wz hw => ?_)
  -- mq: done
  exact ⟨_, _, _, rfl, hw.ext, (Rd.of_blk (E := EStr) (L := allL) hw Has.head rfl (by simp only [maxLen]; decide)).weak (fun k hk => by rw [hk]; exact hg1)⟩
def firstL : List (List UInt8) := [[63, 55], [63, 50, 53]]
theorem refFirst_c (w : World) : Calls Tryd.prog 9 [].toArray w (RetSl EStr w firstL) := by
  refine calls (n := 2) Tryd.func9 rfl Tryd.ntmps9 rfl ?_
  refine CW.sub (H' := SH w [] []) ?_ (Sub.refl _) (fun x hx => SH.start' _ _ hx)
  refine CW.seq (CW.region ?_)
  refine RW.assign rfl rfl ?_
  refine RW.nil (EX.seq (CW.seq (CW.region ?_)))
  refine RW.buildSlc sl29 rfl rfl rfl rfl (fun g1 hg1 hf1 => ?_)
  refine RW.assign rfl rfl ?_
  refine RW.nil (EX.seq (CW.ret ?_))
  refine EX.fin1 Tryd.results9 rfl (fun wz hw => ?_)
  -- mq: done
  exact ⟨_, _, _, rfl, hw.ext, (Rd.of_blk (E := EStr) (L := firstL) hw Has.head rfl (by simp only [maxLen]; decide)).weak (fun k hk => by rw [hk]; exact hg1)⟩
theorem refHas_c (w : World) (F : Nat → Prop) (A : Option Addr) (n c : Nat) (L : List (List UInt8)) (hr : Rd EStr w F A n c L) (hn : n ≤ 1000000) (s : List UInt8) :
    Calls Tryd.prog 16 [.slice A n c, .string (bs s)].toArray w (fun e w' => e = .returned (.bool (decide (s ∈ L))) ∧ Ext [] w w') := by
  have hl := hr.len
  refine calls (n := 18) Tryd.func16 rfl Tryd.ntmps16 rfl ?_
  refine CW.sub (H' := SH w [] []) ?_ (Sub.refl _) (fun x hx => SH.start' _ _ hx)
  refine CW.seq (CW.region ?_)
  refine RW.assign rfl rfl ?_
  refine RW.nil (EX.seq (CW.seq (CW.seq (CW.region ?_))))
  refine RW.assign rfl rfl ?_
  refine RW.nil (EX.seq (CW.block ?_))
  -- mq: loop
  refine CW.loop (ι := Nat) (fun i => [(0, .slice A n c), (1, .string (bs s)), (5, .int .i64 (i : Int))]) (fun _ => SH w [] []) (fun i => i ≤ n ∧ ∀ j, j < i → L[j]? ≠ some s) (fun i => n - i) ?_ ?_
  · exact fun w hw => ⟨0, ⟨Nat.zero_le _, fun j hj => absurd hj (by omega)⟩, (by repeat (first | exact Sub.nil | refine Sub.cons (by rfl) ?_)), hw⟩
  · rintro i ⟨hi, hno⟩
    refine CW.seq (CW.seq (CW.region ?_))
    refine RW.move rfl rfl ?_
    refine RW.move rfl rfl ?_
    refine RW.lenSl Tryd.underlying29 rfl rfl ?_
    refine RW.lss rfl rfl rfl ?_
    refine RW.nil (EX.seq ?_)
    -- mq: cond
    first | refine CW.condD rfl (fun hlt => ?_) (fun hlt => ?_) | refine CW.cond rfl (fun hlt => ?_) (fun hlt => ?_)
    · skip
      obtain ⟨x, hx⟩ : ∃ x, L[i]? = some x := ⟨L[i]'(by omega), List.getElem?_eq_getElem _⟩
      obtain ⟨ad, hA, _, hcell⟩ := hr.at_ hx
      refine CW.skip (EX.seq (CW.seq (CW.block (CW.seq (CW.region ?_)))))
      refine RW.move rfl rfl ?_
      refine RW.move rfl rfl ?_
      refine RW.ixAddr (q := i) sl29 rfl rfl rfl (by first | rfl | assumption) (by omega) (by omega) ?_
      refine RW.load1 sc9 rfl rfl (fun w' hw' => hw'.base_cell (hcell 0 _ rfl) (by simp)) ?_
      refine RW.move rfl rfl ?_
      refine RW.eqlS rfl rfl rfl ?_
      refine RW.nil (EX.seq ?_)
      -- mq: cond
      first | refine CW.condD rfl (fun h2 => ?_) (fun h2 => ?_) | refine CW.cond rfl (fun h2 => ?_) (fun h2 => ?_)
      · skip
        refine CW.seq (CW.region ?_)
        refine RW.assign rfl rfl ?_
        refine RW.nil (EX.seq (CW.ret (EX.bkR (EX.seqR (EX.lpR (EX.bkR (EX.seqR ?_)))))))
        refine EX.fin1 Tryd.results16 rfl (fun wz hw => ?_)
        -- mq: done
        exact ⟨by rw [decide_eq_true (show s ∈ L from h2 ▸ List.mem_of_getElem? hx)], hw.ext⟩
      · skip
        refine CW.skip (EX.bkN (EX.seq (CW.region ?_)))
        refine RW.move rfl rfl ?_
        refine RW.add rfl rfl rfl (wrap64 (by omega) (by omega)) ?_
        refine RW.assign rfl rfl ?_
        refine RW.nil ?_
        -- mq: loopend
        refine EX.lpN (i + 1) ⟨by omega, fun j hj e => ?_⟩ (by omega) (by repeat (first | exact Sub.nil | refine Sub.cons (by rfl) ?_)) (fun w' hw' => hw')
        by_cases hji : j = i
        · subst hji; rw [hx] at e; exact h2 (Option.some.inj e)
        · exact hno j (by omega) e
    · skip
      refine CW.exit (EX.seqE (EX.lpE (EX.bkE (EX.seq (CW.seq (CW.region ?_))))))
      refine RW.assign rfl rfl ?_
      refine RW.nil (EX.seq (CW.ret ?_))
      refine EX.fin1 Tryd.results16 rfl (fun wz hw => ?_)
      -- mq: done
      refine ⟨?_, hw.ext⟩
      rw [decide_eq_false]
      intro hm
      obtain ⟨j, hj, e⟩ := List.getElem_of_mem hm
      exact hno j (by omega) (by rw [List.getElem?_eq_getElem hj, e])
theorem same_c (w : World) (F G : Nat → Prop) (A B : Option Addr) (n c m d : Nat) (L M : List (List UInt8)) (hx : Rd EStr w F A n c L) (hy : Rd EStr w G B m d M) (hn : n ≤ 1000000) :
    Calls Tryd.prog 13 [.slice A n c, .slice B m d].toArray w (fun e w' => e = .returned (.bool (decide (L = M))) ∧ Ext [] w w') := by
  have hlx := hx.len
  have hly := hy.len
  refine calls (n := 26) Tryd.func13 rfl Tryd.ntmps13 rfl ?_
  refine CW.sub (H' := SH w [] []) ?_ (Sub.refl _) (fun x hx => SH.start' _ _ hx)
  refine CW.seq (CW.region ?_)
  refine RW.assign rfl rfl ?_
  refine RW.nil (EX.seq (CW.seq (CW.seq (CW.region ?_))))
  refine RW.move rfl rfl ?_
  refine RW.lenSl Tryd.underlying28 rfl rfl ?_
  refine RW.move rfl rfl ?_
  refine RW.lenSl Tryd.underlying29 rfl rfl ?_
  refine RW.neqI rfl rfl rfl ?_
  refine RW.nil (EX.seq ?_)
  -- mq: cond
  first | refine CW.condD rfl (fun h0 => ?_) (fun h0 => ?_) | refine CW.cond rfl (fun h0 => ?_) (fun h0 => ?_)
  · skip
    refine CW.seq (CW.region ?_)
    refine RW.assign rfl rfl ?_
    refine RW.nil (EX.seq (CW.ret (EX.seqR ?_)))
    refine EX.fin1 Tryd.results13 rfl (fun wz hw => ?_)
    -- mq: done
    refine ⟨?_, hw.ext⟩
    rw [decide_eq_false]
    rintro rfl
    omega
  · skip
    obtain rfl : n = m := by omega
    refine CW.skip (EX.seq (CW.seq (CW.seq (CW.region ?_))))
    refine RW.assign rfl rfl ?_
    refine RW.nil (EX.seq (CW.block ?_))
    -- mq: loop
    refine CW.loop (ι := Nat) (fun k => [(0, .slice A n c), (1, .slice B n d), (5, .int .i64 (k : Int))]) (fun _ => SH w [] []) (fun k => k ≤ n ∧ ∀ j, j < k → L[j]? = M[j]?) (fun k => n - k) ?_ ?_
    · exact fun w hw => ⟨0, ⟨Nat.zero_le _, fun j hj => absurd hj (by omega)⟩, (by repeat (first | exact Sub.nil | refine Sub.cons (by rfl) ?_)), hw⟩
    · rintro k ⟨hk, hsame⟩
      refine CW.seq (CW.seq (CW.region ?_))
      refine RW.move rfl rfl ?_
      refine RW.move rfl rfl ?_
      refine RW.lenSl Tryd.underlying28 rfl rfl ?_
      refine RW.lss rfl rfl rfl ?_
      refine RW.nil (EX.seq ?_)
      -- mq: cond
      first | refine CW.condD rfl (fun hlt => ?_) (fun hlt => ?_) | refine CW.cond rfl (fun hlt => ?_) (fun hlt => ?_)
      · skip
        obtain ⟨p, hp⟩ : ∃ p, L[k]? = some p := ⟨L[k]'(by omega), List.getElem?_eq_getElem _⟩
        obtain ⟨q, hq⟩ : ∃ q, M[k]? = some q := ⟨M[k]'(by omega), List.getElem?_eq_getElem _⟩
        obtain ⟨ad, hA, _, hcell⟩ := hx.at_ hp
        obtain ⟨bd, hB, _, hcell2⟩ := hy.at_ hq
        refine CW.skip (EX.seq (CW.seq (CW.block (CW.seq ?_))))
        refine CW.drawq mixed (by kernel_rfl) (fun _ hw => hw.drew) ?_
        refine DRq.cons rfl (RW.move rfl rfl RW.jn) ?_
        refine DRq.cons rfl (RW.move rfl rfl RW.jn) ?_
        refine DRq.cons rfl (RW.ixAddr (q := k) sl28 rfl rfl rfl (by first | rfl | assumption) (by omega) (by omega) RW.jn) ?_
        refine DRq.cons rfl (RW.load1 sc9 rfl rfl (fun w' hw' => hw'.base_cell (hcell 0 _ rfl) (by simp)) RW.jn) ?_
        refine DRq.cons rfl (RW.move rfl rfl RW.jn) ?_
        refine DRq.cons rfl (RW.move rfl rfl RW.jn) ?_
        refine DRq.cons rfl (RW.ixAddr (q := k) sl29 rfl rfl rfl (by first | rfl | assumption) (by omega) (by omega) RW.jn) ?_
        refine DRq.cons rfl (RW.load1 sc9 rfl rfl (fun w' hw' => hw'.base_cell (hcell2 0 _ rfl) (by simp)) RW.jn) ?_
        refine DRq.cons rfl (RW.neqS rfl rfl rfl RW.jn) ?_
        refine DRq.nil (EX.seq ?_)
        -- mq: cond
        first | refine CW.condD rfl (fun h2 => ?_) (fun h2 => ?_) | refine CW.cond rfl (fun h2 => ?_) (fun h2 => ?_)
        · skip
          refine CW.seq (CW.region ?_)
          refine RW.assign rfl rfl ?_
          refine RW.nil (EX.seq (CW.ret (EX.bkR (EX.seqR (EX.lpR (EX.bkR (EX.seqR ?_)))))))
          refine EX.fin1 Tryd.results13 rfl (fun wz hw => ?_)
          -- mq: done
          refine ⟨?_, hw.ext⟩
          rw [decide_eq_false]
          rintro rfl
          rw [hp] at hq
          exact h2 (Option.some.inj hq)
        · skip
          refine CW.skip (EX.bkN (EX.seq (CW.region ?_)))
          refine RW.move rfl rfl ?_
          refine RW.add rfl rfl rfl (wrap64 (by omega) (by omega)) ?_
          refine RW.assign rfl rfl ?_
          refine RW.nil ?_
          -- mq: loopend
          refine EX.lpN (k + 1) ⟨by omega, fun j hj => ?_⟩ (by omega) (by repeat (first | exact Sub.nil | refine Sub.cons (by rfl) ?_)) (fun w' hw' => hw')
          by_cases hjk : j = k
          · subst hjk; rw [hp, hq]; simpa using h2
          · exact hsame j (by omega)
      · skip
        refine CW.exit (EX.seqE (EX.lpE (EX.bkE (EX.seq (CW.seq (CW.region ?_))))))
        refine RW.assign rfl rfl ?_
        refine RW.nil (EX.seq (CW.ret ?_))
        refine EX.fin1 Tryd.results13 rfl (fun wz hw => ?_)
        -- mq: done
        refine ⟨?_, hw.ext⟩
        rw [decide_eq_true]
        apply List.ext_getElem?
        intro j
        rcases Nat.lt_or_ge j n with h | h
        · exact hsame j (by omega)
        · rw [List.getElem?_eq_none (by omega), List.getElem?_eq_none (by omega)]
def withP (L : List (List UInt8)) (s : List UInt8) (on : Bool) (a : List UInt8) : Bool := if a = s then on else decide (a ∈ L)
def withL (L : List (List UInt8)) (s : List UInt8) (on : Bool) : List (List UInt8) := allL.filter (withP L s on)
theorem refWith_c (w : World) (F : Nat → Prop) (A : Option Addr) (n c : Nat) (L : List (List UInt8)) (hr : Rd EStr w F A n c L) (hn : n ≤ 1000000) (s : List UInt8) (on : Bool) :
    Calls Tryd.prog 11 [.slice A n c, .string (bs s), .bool on].toArray w (RetSl EStr w (withL L s on)) := by
  have hl := hr.len
  have hall : allL.length = 18 := rfl
  refine calls (n := 40) Tryd.func11 rfl Tryd.ntmps11 rfl ?_
  refine CW.sub (H' := SH w [] []) ?_ (Sub.refl _) (fun x hx => SH.start' _ _ hx)
  refine CW.seq (CW.region ?_)
  refine RW.assign rfl rfl ?_
  refine RW.nil (EX.seq (CW.seq (CW.region ?_)))
  refine RW.assign rfl rfl ?_
  refine RW.nil (EX.seq (CW.seq (CW.region ?_)))
  -- mq: op 0: ('Op.call', ('Call.mk', ('Callee.value', ('Operand.func', '18')), ('arr',), ('arr',))) -> slot 11 ("ref.go:46")
  refine RW.callR rfl ca18 rfl (fun w' _ => refAll_c w') (fun w1 w2 A2 n2 c2 hw1 he2 hw2 hrd2 => ?_)
  have hx02 : Ext [] w w2 := hw1.ext.trans0 he2
  have hr2 := hr.ext hx02 (by simp)
  obtain rfl : 18 = n2 := hrd2.len
  refine RW.assign rfl rfl ?_
  refine RW.nil (EX.seq (CW.seq (CW.seq (CW.region ?_))))
  refine RW.assign rfl rfl ?_
  refine RW.nil (EX.seq (CW.block ?_))
  -- mq: loop
  refine CW.ownNil 9 1 ?_
  refine CW.loop (ι := Nat × Value) (fun i => [(0, .slice A n c), (1, .string (bs s)), (2, .bool on), (7, i.2), (8, .slice A2 18 c2), (9, .int .i64 (i.1 : Int))]) (fun i => SH w2 [] [own 9 1 i.2 ((allL.take i.1).filter (withP L s on)).length (EStr.all ((allL.take i.1).filter (withP L s on)))]) (fun i => i.1 ≤ 18 ∧ ∀ g, i.2.ownBlock = some g → w2.heap.size ≤ g) (fun i => 18 - i.1) ?_ ?_
  · exact fun w hw => ⟨(0, .slice none 0 0), ⟨by omega, by simp [Value.ownBlock]⟩, (by repeat (first | exact Sub.nil | refine Sub.cons (by rfl) ?_)), hw⟩
  · rintro ⟨i, v⟩ ⟨hi, hv⟩
    dsimp only at hi hv ⊢
    have hfl : ((allL.take i).filter (withP L s on)).length ≤ 18 := by
      have h1 := List.length_filter_le (withP L s on) (allL.take i)
      have h2 := List.length_take_le i allL
      rw [List.length_take] at h1
      omega
    refine CW.seq (CW.seq (CW.region ?_))
    refine RW.move rfl rfl ?_
    refine RW.move rfl rfl ?_
    refine RW.lenSl Tryd.underlying28 rfl rfl ?_
    refine RW.lss rfl rfl rfl ?_
    refine RW.nil (EX.seq ?_)
    -- mq: cond
    first | refine CW.condD rfl (fun hlt => ?_) (fun hlt => ?_) | refine CW.cond rfl (fun hlt => ?_) (fun hlt => ?_)
    · skip
      obtain ⟨x, hx⟩ : ∃ x, allL[i]? = some x := ⟨allL[i]'(by omega), List.getElem?_eq_getElem _⟩
      obtain ⟨ad, hA, _, hcell⟩ := hrd2.at_ hx
      have hs : (allL.take (i + 1)).filter (withP L s on) = if withP L s on x then (allL.take i).filter (withP L s on) ++ [x] else (allL.take i).filter (withP L s on) := by
        rw [List.take_add_one, hx, Option.toList_some, List.filter_append]
        by_cases h : withP L s on x = true <;> simp [h]
      refine CW.skip (EX.seq (CW.seq (CW.block (CW.seq (CW.region ?_)))))
      refine RW.move rfl rfl ?_
      refine RW.move rfl rfl ?_
      refine RW.move rfl rfl ?_
      refine RW.ixAddr (q := i) sl28 rfl rfl rfl (by first | rfl | assumption) (by omega) (by omega) ?_
      refine RW.load1 sc9 rfl rfl (fun w' hw' => hw'.base_cell (hcell 0 _ rfl) (by simp)) ?_
      -- mq: op 5: ('Op.call', ('Call.mk', ('Callee.value', ('Operand.func', '16')), ('arr', ('Operand.tmp', '18'), ('Operand.tmp', '22')), ('arr', '29', '9'))) -> slot 23 ("ref.go:48")
      refine RW.call rfl ca16 rfl (fun w' hw' => refHas_c w' _ A n c L (hr2.ext hw'.ext (by simp)) hn x) ?_
      refine RW.assign rfl rfl ?_
      refine RW.nil (EX.seq (CW.seq (CW.seq (CW.region ?_))))
      refine RW.move rfl rfl ?_
      refine RW.move rfl rfl ?_
      refine RW.ixAddr (q := i) sl28 rfl rfl rfl (by first | rfl | assumption) (by omega) (by omega) ?_
      refine RW.load1 sc9 rfl rfl (fun w' hw' => hw'.base_cell (hcell 0 _ rfl) (by simp)) ?_
      refine RW.move rfl rfl ?_
      refine RW.eqlS rfl rfl rfl ?_
      refine RW.nil (EX.seq ?_)
      -- mq: cond
      first | refine CW.condD rfl (fun h2 => ?_) (fun h2 => ?_) | refine CW.cond rfl (fun h2 => ?_) (fun h2 => ?_)
      · skip
        have hwp : withP L s on x = on := by rw [withP, if_pos h2]
        refine CW.region ?_
        refine RW.move rfl rfl ?_
        refine RW.assign rfl rfl ?_
        refine RW.nil (EX.seq (CW.seq (CW.region ?_)))
        refine RW.move rfl rfl ?_
        refine RW.nil (EX.seq ?_)
        -- mq: cond
        first | refine CW.condD rfl (fun h3 => ?_) (fun h3 => ?_) | refine CW.cond rfl (fun h3 => ?_) (fun h3 => ?_)
        · skip
          refine CW.region ?_
          refine RW.move rfl rfl ?_
          refine RW.move rfl rfl ?_
          refine RW.move rfl rfl ?_
          refine RW.ixAddr (q := i) sl28 rfl rfl rfl (by first | rfl | assumption) (by omega) (by omega) ?_
          refine RW.load1 sc9 rfl rfl (fun w' hw' => hw'.base_cell (hcell 0 _ rfl) (by simp)) ?_
          refine RW.buildSlc sl29 rfl rfl rfl rfl (fun g37 hg37 hf37 => ?_)
          refine RW.append1 sl29 rfl rfl rfl (by first | exact Rem.head | exact Rem.tail Rem.head | exact Rem.tail (Rem.tail Rem.head) | exact Rem.tail (Rem.tail (Rem.tail Rem.head)) | exact Rem.tail (Rem.tail (Rem.tail (Rem.tail Rem.head))) | exact Rem.tail (Rem.tail (Rem.tail (Rem.tail (Rem.tail Rem.head)))) | exact Rem.tail (Rem.tail (Rem.tail (Rem.tail (Rem.tail (Rem.tail Rem.head)))))) (fun _ => by first | exact Upd.head | exact Upd.tail Upd.head | exact Upd.tail (Upd.tail Upd.head) | exact Upd.tail (Upd.tail (Upd.tail Upd.head)) | exact Upd.tail (Upd.tail (Upd.tail (Upd.tail Upd.head))) | exact Upd.tail (Upd.tail (Upd.tail (Upd.tail (Upd.tail Upd.head)))) | exact Upd.tail (Upd.tail (Upd.tail (Upd.tail (Upd.tail (Upd.tail Upd.head)))))) rfl (by repeat (first | exact Ones.nil | exact Enc.ones _ _ | refine Ones.cons rfl ?_)) (by simp only [maxLen]; omega) (by omega) (fun v38 hv38 => ?_)
          refine RW.assign rfl rfl ?_
          refine RW.nil (EX.bkN (EX.seq (CW.region ?_)))
          refine RW.move rfl rfl ?_
          refine RW.add rfl rfl rfl (wrap64 (by omega) (by omega)) ?_
          refine RW.assign rfl rfl ?_
          refine RW.nil ?_
          -- mq: loopend
          refine EX.lpN (i + 1, v38) ⟨by omega, fun g hg => by
              rcases hv38 g hg with h | h
              · exact hv g h
              · exact h.1⟩ (by omega) (by repeat (first | exact Sub.nil | refine Sub.cons (by rfl) ?_)) (fun w' hw' => ?_)
          dsimp only
          rw [hs, if_pos (by rw [hwp]; simpa using h3), List.length_append, Enc.all_snoc]
          exact hw'
        · skip
          refine CW.skip (EX.bkN (EX.seq (CW.region ?_)))
          refine RW.move rfl rfl ?_
          refine RW.add rfl rfl rfl (wrap64 (by omega) (by omega)) ?_
          refine RW.assign rfl rfl ?_
          refine RW.nil ?_
          -- mq: loopend
          refine EX.lpN (i + 1, v) ⟨by omega, hv⟩ (by omega) (by repeat (first | exact Sub.nil | refine Sub.cons (by rfl) ?_)) (fun w' hw' => ?_)
          dsimp only
          rw [hs, if_neg (by rw [hwp]; simpa using h3)]
          exact hw'
      · skip
        have hwp : withP L s on x = decide (x ∈ L) := by rw [withP, if_neg h2]
        refine CW.skip (EX.seq (CW.seq (CW.region ?_)))
        refine RW.move rfl rfl ?_
        refine RW.nil (EX.seq ?_)
        -- mq: cond
        first | refine CW.condD rfl (fun h3 => ?_) (fun h3 => ?_) | refine CW.cond rfl (fun h3 => ?_) (fun h3 => ?_)
        · skip
          refine CW.region ?_
          refine RW.move rfl rfl ?_
          refine RW.move rfl rfl ?_
          refine RW.move rfl rfl ?_
          refine RW.ixAddr (q := i) sl28 rfl rfl rfl (by first | rfl | assumption) (by omega) (by omega) ?_
          refine RW.load1 sc9 rfl rfl (fun w' hw' => hw'.base_cell (hcell 0 _ rfl) (by simp)) ?_
          refine RW.buildSlc sl29 rfl rfl rfl rfl (fun g37 hg37 hf37 => ?_)
          refine RW.append1 sl29 rfl rfl rfl (by first | exact Rem.head | exact Rem.tail Rem.head | exact Rem.tail (Rem.tail Rem.head) | exact Rem.tail (Rem.tail (Rem.tail Rem.head)) | exact Rem.tail (Rem.tail (Rem.tail (Rem.tail Rem.head))) | exact Rem.tail (Rem.tail (Rem.tail (Rem.tail (Rem.tail Rem.head)))) | exact Rem.tail (Rem.tail (Rem.tail (Rem.tail (Rem.tail (Rem.tail Rem.head)))))) (fun _ => by first | exact Upd.head | exact Upd.tail Upd.head | exact Upd.tail (Upd.tail Upd.head) | exact Upd.tail (Upd.tail (Upd.tail Upd.head)) | exact Upd.tail (Upd.tail (Upd.tail (Upd.tail Upd.head))) | exact Upd.tail (Upd.tail (Upd.tail (Upd.tail (Upd.tail Upd.head)))) | exact Upd.tail (Upd.tail (Upd.tail (Upd.tail (Upd.tail (Upd.tail Upd.head)))))) rfl (by repeat (first | exact Ones.nil | exact Enc.ones _ _ | refine Ones.cons rfl ?_)) (by simp only [maxLen]; omega) (by omega) (fun v38 hv38 => ?_)
          refine RW.assign rfl rfl ?_
          refine RW.nil (EX.bkN (EX.seq (CW.region ?_)))
          refine RW.move rfl rfl ?_
          refine RW.add rfl rfl rfl (wrap64 (by omega) (by omega)) ?_
          refine RW.assign rfl rfl ?_
          refine RW.nil ?_
          -- mq: loopend
          refine EX.lpN (i + 1, v38) ⟨by omega, fun g hg => by
              rcases hv38 g hg with h | h
              · exact hv g h
              · exact h.1⟩ (by omega) (by repeat (first | exact Sub.nil | refine Sub.cons (by rfl) ?_)) (fun w' hw' => ?_)
          dsimp only
          rw [hs, if_pos (by rw [hwp]; simpa using h3), List.length_append, Enc.all_snoc]
          exact hw'
        · skip
          refine CW.skip (EX.bkN (EX.seq (CW.region ?_)))
          refine RW.move rfl rfl ?_
          refine RW.add rfl rfl rfl (wrap64 (by omega) (by omega)) ?_
          refine RW.assign rfl rfl ?_
          refine RW.nil ?_
          -- mq: loopend
          refine EX.lpN (i + 1, v) ⟨by omega, hv⟩ (by omega) (by repeat (first | exact Sub.nil | refine Sub.cons (by rfl) ?_)) (fun w' hw' => ?_)
          dsimp only
          rw [hs, if_neg (by rw [hwp]; simpa using h3)]
          exact hw'
    · skip
      have h18 : i = 18 := by omega
      subst h18
      refine CW.exit (EX.seqE (EX.lpE (EX.bkE (EX.seq (CW.seq (CW.region ?_))))))
      refine RW.move rfl rfl ?_
      refine RW.assign rfl rfl ?_
      refine RW.nil (EX.seq (CW.ret ?_))
      refine EX.fin1 Tryd.results11 rfl (fun wz hw => ?_)
      -- mq: done
      obtain ⟨A3, n3, c3, he, hx3, hr3⟩ := RetSl.of_own (E := EStr) hw.ext (hw.has Has.head) rfl hv
      rw [List.take_of_length_le (by omega)] at hr3
      exact ⟨A3, n3, c3, he, hx02.trans0 hx3, hr3.weak (fun k hk => Nat.le_trans hx02.size hk)⟩
theorem itoa_neg_eq {m : Nat} (h : 1 ≤ m) : Lib.itoa (-(m : Int)) = [45] ++ (if m < 10 then [] else Lib.decDigits (m / 10)) ++ Lib.decDigits (m % 10) := by
  rw [Lib.itoa_neg m h]
  by_cases h1 : m < 10
  · rw [if_pos h1, dec_small h1, Nat.mod_eq_of_lt h1, dec_small h1]; rfl
  · rw [if_neg h1, dec_big h1, dec_small (u := m % 10) (by omega)]; rfl
theorem refName_c (w : World) (p : Bool) (n : Int) (h : -9223372036854775808 ≤ n ∧ n ≤ 9223372036854775807) :
    Calls Tryd.prog 12 [.bool p, .int .i64 n].toArray w (fun e w' => e = .returned (.string (bs (nameL p n))) ∧ Ext [] w w') := by
  have hil := Lib.itoa_length_le n h.1 h.2
  obtain ⟨pre, hpre⟩ : ∃ pre : List UInt8, pre = (if p then [63] else []) := ⟨_, rfl⟩
  have hpl : pre.length ≤ 1 := by rw [hpre]; split <;> simp
  refine calls (n := 29) Tryd.func12 rfl Tryd.ntmps12 rfl ?_
  refine CW.sub (H' := SH w [] []) ?_ (Sub.refl _) (fun x hx => SH.start' _ _ hx)
  refine CW.seq (CW.region ?_)
  refine RW.assign rfl rfl ?_
  refine RW.nil (EX.seq (CW.seq (CW.region ?_)))
  refine RW.assign rfl rfl ?_
  refine RW.nil (EX.seq (CW.seq (CW.seq (CW.region ?_))))
  refine RW.move rfl rfl ?_
  refine RW.nil (EX.seq ?_)
  -- mq: cond
  refine CW.join ([(1, .int .i64 n), (4, .string (bs [])), (5, .string (bs pre))]) (SH w [] []) ?_ ?_
  · skip
    first | refine CW.condD rfl (fun hp => ?_) (fun hp => ?_) | refine CW.cond rfl (fun hp => ?_) (fun hp => ?_)
    · skip
      refine CW.region ?_
      refine RW.assign rfl rfl ?_
      refine RW.nil ?_
      -- mq: joinend
      rw [hpre, if_pos hp]
      exact EX.jn (by repeat (first | exact Sub.nil | refine Sub.cons (by rfl) ?_)) (fun _ h => h)
    · skip
      refine CW.skip ?_
      -- mq: joinend
      rw [hpre, if_neg (by simp [hp])]
      exact EX.jn (by repeat (first | exact Sub.nil | refine Sub.cons (by rfl) ?_)) (fun _ h => h)
  · skip
    refine EX.seq (CW.seq (CW.seq (CW.region ?_)))
    refine RW.move rfl rfl ?_
    refine RW.lss rfl rfl rfl ?_
    refine RW.nil (EX.seq ?_)
    -- mq: cond
    first | refine CW.condD rfl (fun h9 => ?_) (fun h9 => ?_) | refine CW.cond rfl (fun h9 => ?_) (fun h9 => ?_)
    · skip
      obtain ⟨m, rfl⟩ : ∃ m : Nat, n = -(m : Int) := ⟨n.natAbs, by omega⟩
      have hd1 := dec_len_le (u := m / 10) (by omega)
      have hd2 := dec_len_le (u := m % 10) (by omega)
      have hq : (-(m : Int)).tdiv 10 = -((m / 10 : Nat) : Int) := by
        rw [Int.neg_tdiv, Int.tdiv_eq_ediv_of_nonneg (by omega)]; omega
      have hr : (-(m : Int)).tmod 10 = -((m % 10 : Nat) : Int) := by
        rw [Int.neg_tmod, Int.tmod_eq_emod_of_nonneg (by omega)]; omega
      obtain ⟨hd, hhd⟩ : ∃ hd : List UInt8, hd = (if m < 10 then [] else Lib.decDigits (m / 10)) := ⟨_, rfl⟩
      have hhl : hd.length ≤ 21 := by
        rw [hhd]
        split
        · simp
        · omega
      refine CW.seq (CW.region ?_)
      refine RW.assign rfl rfl ?_
      refine RW.nil (EX.seq (CW.seq (CW.seq (CW.region ?_))))
      refine RW.move rfl rfl ?_
      refine RW.leq rfl rfl rfl ?_
      refine RW.nil (EX.seq ?_)
      -- mq: cond
      refine CW.join ([(1, .int .i64 (-(m : Int))), (4, .string (bs [])), (5, .string (bs pre)), (6, .string (bs hd))]) (SH w [] []) ?_ ?_
      · skip
        first | refine CW.condD rfl (fun h10 => ?_) (fun h10 => ?_) | refine CW.cond rfl (fun h10 => ?_) (fun h10 => ?_)
        · skip
          refine CW.region ?_
          refine RW.move rfl rfl ?_
          refine RW.quo (r := -((m / 10 : Nat) : Int)) rfl rfl rfl (by decide) (by rw [hq]; exact wrap64 (by omega) (by omega)) ?_
          refine RW.neg_ (r := ((m / 10 : Nat) : Int)) rfl rfl (by rw [wrap64 (by omega) (by omega)]; omega) ?_
          refine RW.call rfl ca22 rfl (fun w' _ => refDigits_c w' (m / 10) (by omega)) ?_
          refine RW.assign rfl rfl ?_
          refine RW.nil ?_
          -- mq: joinend
          rw [hhd, if_neg (by omega)]
          exact EX.jn (by repeat (first | exact Sub.nil | refine Sub.cons (by rfl) ?_)) (fun _ h => h)
        · skip
          refine CW.skip ?_
          -- mq: joinend
          rw [hhd, if_pos (by omega)]
          exact EX.jn (by repeat (first | exact Sub.nil | refine Sub.cons (by rfl) ?_)) (fun _ h => h)
      · skip
        refine EX.seq (CW.seq (CW.region ?_))
        refine RW.move rfl rfl ?_
        refine RW.catS rfl rfl rfl (by first | omega | (simp only [List.length_append, List.length_cons, List.length_nil]; omega)) ?_
        refine RW.move rfl rfl ?_
        refine RW.catS rfl rfl rfl (by first | omega | (simp only [List.length_append, List.length_cons, List.length_nil]; omega)) ?_
        refine RW.move rfl rfl ?_
        refine RW.rem (r := -((m % 10 : Nat) : Int)) rfl rfl rfl (by decide) hr ?_
        refine RW.neg_ (r := ((m % 10 : Nat) : Int)) rfl rfl (by rw [wrap64 (by omega) (by omega)]; omega) ?_
        refine RW.call rfl ca22 rfl (fun w' _ => refDigits_c w' (m % 10) (by omega)) ?_
        refine RW.catS rfl rfl rfl (by first | omega | (simp only [List.length_append, List.length_cons, List.length_nil]; omega)) ?_
        refine RW.assign rfl rfl ?_
        refine RW.nil (EX.seq (CW.ret (EX.seqR ?_)))
        refine EX.fin1 Tryd.results12 rfl (fun wz hw => ?_)
        -- mq: done
        refine ⟨?_, hw.ext⟩
        rw [nameL, ← hpre, itoa_neg_eq (by omega), ← hhd]
        simp only [List.append_assoc]
    · skip
      obtain ⟨m, rfl⟩ : ∃ m : Nat, n = (m : Int) := ⟨n.natAbs, by omega⟩
      have hd1 := dec_len_le (u := m) (by omega)
      refine CW.skip (EX.seq (CW.seq (CW.region ?_)))
      refine RW.move rfl rfl ?_
      refine RW.move rfl rfl ?_
      -- mq: op 2: ('Op.call', ('Call.mk', ('Callee.value', ('Operand.func', '22')), ('arr', ('Operand.tmp', '26')), ('arr', '3'))) -> slot 27 ("ref.go:24")
      refine RW.call rfl ca22 rfl (fun w' _ => refDigits_c w' m (by omega)) ?_
      refine RW.catS rfl rfl rfl (by first | omega | (simp only [List.length_append, List.length_cons, List.length_nil]; omega)) ?_
      refine RW.assign rfl rfl ?_
      refine RW.nil (EX.seq (CW.ret ?_))
      refine EX.fin1 Tryd.results12 rfl (fun wz hw => ?_)
      -- mq: done
      refine ⟨?_, hw.ext⟩
      rw [nameL, ← hpre, Lib.itoa_nonneg]
theorem first_eq : listF newB = firstL := by
  have : (List.range 18).filter (bitF newB) = [5, 6] := by decide
  rw [listF, listTo, this]
  simp [nameAt, nameL, numsL, Lib.itoa, Lib.decDigits, firstL]
theorem report_ex : reportF newB true 7 = [27, 91, 63, 55, 59, 49, 36, 121] := by
  have h1 : isF newB true 7 = true := by decide
  rw [reportF, if_pos h1]
  simp [nameL, Lib.itoa, Lib.decDigits]
theorem awake_c (w : World) (hg : Gl w) : Calls Tryd.prog 7 [].toArray w (fun e w' => e = .returned (.bool true) ∧ Ext [] w w') := by
  refine calls (n := 10) Tryd.func7 rfl Tryd.ntmps7 rfl ?_
  refine CW.sub (H' := SH w [] []) ?_ (Sub.refl _) (fun x hx => SH.start' _ _ hx)
  refine CW.seq (CW.region ?_)
  refine RW.assign rfl rfl ?_
  refine RW.nil (EX.seq (CW.seq (CW.region ?_)))
  -- mq: op 0: ('Op.call', ('Call.mk', ('Callee.value', ('Operand.func', '8')), ('arr',), ('arr',))) -> slot 1 ("law.go:12")
  refine RW.call rfl ca8 rfl (fun w' _ => new_c w') ?_
  refine RW.call rfl ca19 rfl (fun w' hw' => report_c w' (hg.ext hw'.ext) newB (by decide) true 7 (by decide)) ?_
  rw [report_ex]
  refine RW.eqlS rfl rfl rfl ?_
  refine RW.move rfl rfl ?_
  refine RW.guardT rfl rfl (by decide) ?_
  -- mq: op 4: ('Op.call', ('Call.mk', ('Callee.value', ('Operand.func', '8')), ('arr',), ('arr',))) -> slot 5 ("law.go:12")
  refine RW.call rfl ca8 rfl (fun w' _ => new_c w') ?_
  refine RW.guardT rfl rfl (by decide) ?_
  -- mq: op 5: ('Op.call', ('Call.mk', ('Callee.value', ('Operand.func', '14')), ('arr', ('Operand.tmp', '5')), ('arr', '26'))) -> slot 6 ("law.go:12")
  refine RW.callR rfl ca14 rfl (fun w' hw' => list_c w' (hg.ext hw'.ext) newB (by decide)) (fun w1 w2 A n c hw1 he2 hw2 hrd => ?_)
  rw [first_eq] at hrd
  obtain rfl : 2 = n := hrd.len
  refine RW.guardT rfl rfl (by decide) ?_
  -- mq: op 6: ('Op.call', ('Call.mk', ('Callee.value', ('Operand.func', '9')), ('arr',), ('arr',))) -> slot 7 ("law.go:12")
  refine RW.callR rfl ca9 rfl (fun w' hw' => refFirst_c w') (fun w3 w4 A2 n2 c2 hw3 he4 hw4 hrd2 => ?_)
  obtain rfl : 2 = n2 := hrd2.len
  have hx24 : Ext [] w2 w4 := hw3.ext.trans0 he4
  refine RW.guardT rfl rfl (by decide) ?_
  -- mq: op 7: ('Op.call', ('Call.mk', ('Callee.value', ('Operand.func', '13')), ('arr', ('Operand.tmp', '6'), ('Operand.tmp', '7')), ('arr', '28', '29'))) -> slot 8 ("law.go:12")
  refine RW.call rfl ca13 rfl (fun w' hw' => same_c w' _ _ _ _ _ _ _ _ _ _ ((hrd.ext hx24 (by simp)).ext hw'.ext (by simp)) (hrd2.ext hw'.ext (by simp)) (by decide)) ?_
  refine RW.pickB rfl rfl (by decide) rfl ?_
  refine RW.assign rfl rfl ?_
  refine RW.nil (EX.seq (CW.ret ?_))
  refine EX.fin1 Tryd.results7 rfl (fun wz hw => ?_)
  -- mq: done
  exact ⟨rfl, ((hw1.ext.trans0 he2).trans0 hx24).trans0 hw.ext⟩
end Go.Proofs.YtpjehphcpegajaaDoor.Mq
