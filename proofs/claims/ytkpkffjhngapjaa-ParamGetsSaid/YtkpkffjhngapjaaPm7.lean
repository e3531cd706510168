/- walks: Get, Count, Flat, ParamGets -/
import Derived.Test.YtkpkffjhngapjaaPm6
namespace Go.Proofs.Ytkpkffjhngapjaa.Mq
open Go Go.RowKit Go.Proofs

theorem cleanF_head (gs : List (List Int)) : ∀ g ∈ cleanF gs, ∃ y t, g = y :: t ∧ -1 ≤ y ∧ y ≤ 65535 := by
  have hc : ∀ x : List Int, ∃ y t, cleanG x = y :: t ∧ -1 ≤ y ∧ y ≤ 65535 := fun x => by
    unfold cleanG
    split
    · exact ⟨-1, [], rfl, by omega, by omega⟩
    · rename_i h
      cases x with
      | nil => exact absurd rfl h
      | cons a x => exact ⟨cleanN a, _, rfl, by unfold cleanN; omega, by unfold cleanN; omega⟩
  intro g hg
  unfold cleanF at hg
  split at hg
  · rw [List.mem_singleton.1 hg]; exact ⟨-1, [], rfl, by omega, by omega⟩
  · obtain ⟨x, _, rfl⟩ := List.mem_map.1 hg
    exact hc x
def firstF (g : List Int) : Int := g.headD (-1)
/-- the first value of a clean group that is there; -1: there is none -/
def atF (cl : List (List Int)) (i : Int) : Int := if 0 ≤ i ∧ i < (cl.length : Int) then firstF (cl.getD i.toNat []) else -1
def getF (gs : List (List Int)) (i usual : Int) : Int := if atF (cleanF gs) i = -1 then usual else atF (cleanF gs) i
theorem atF_in {cl : List (List Int)} {k : Nat} {y : Int} {t : List Int} (h : cl[k]? = some (y :: t)) : atF cl (k : Int) = y := by
  have hlt := (List.getElem?_eq_some_iff.1 h).1
  rw [atF, if_pos (by omega)]
  simp [firstF, List.getD, h]
theorem Get_c (w : World) (F : Nat → Prop) (A : Option Addr) (n c : Nat) (gs : List (List Int)) (hr : RdG w F A n c gs) (hn : n ≤ 1000000) (hm : ∀ g ∈ gs, g.length ≤ 1000000) (i usual : Int) :
    Calls Try.prog 14 [.slice A n c, .int .i64 i, .int .i64 usual].toArray w (fun e w' => e = .returned (.int .i64 (getF gs i usual)) ∧ Ext [] w w') := by
  refine calls (n := 34) Try.func14 rfl Try.ntmps14 rfl ?_
  refine CW.sub (H' := SH w [] []) ?_ (Sub.refl _) (fun x hx => SH.start' _ _ hx)
  refine CW.seq (CW.region ?_)
  refine RW.assign rfl rfl ?_
  refine RW.nil (EX.seq (CW.seq (CW.region ?_)))
  refine RW.move rfl rfl ?_
  -- mq: op 1: ('Op.call', ('Call.mk', ('Callee.value', ('Operand.func', '12')), ('arr', ('Operand.tmp', '8')), ('arr', '23'))) -> slot 9 ("param.go:103")
  refine RW.callA (R := fun w0 => IsG (cleanF gs) w0) rfl ca12 rfl (fun w' hw' => (Clean_c w' F A n c gs (hr.ext hw'.ext (by simp)) hn hm).mono (fun e w'' h => h.toA)) ?_
  rintro w0 w1 v hw0 he01 hw1 hlt ⟨A1, n1, c1, rfl, hrd1⟩
  have hx0 : Ext [] w w1 := hw0.ext.trans0 he01
  have hn1 := hrd1.len
  refine RW.assign rfl rfl ?_
  refine RW.nil (EX.seq (CW.seq (CW.seq (CW.region ?_))))
  refine RW.move rfl rfl ?_
  refine RW.lss rfl rfl rfl ?_
  refine RW.move rfl rfl ?_
  -- mq: guard slot 12
  refine RW.casesB 12 rfl (fun h12 => ?_) (fun h12 => ?_)
  · skip
    have h12p := of_decide_eq_true h12
    refine RW.guardF rfl rfl rfl h12 ?_
    refine RW.guardF rfl rfl rfl h12 ?_
    refine RW.guardF rfl rfl rfl h12 ?_
    refine RW.guardF rfl rfl rfl h12 ?_
    refine RW.pickB rfl rfl h12 rfl ?_
    refine RW.move rfl rfl ?_
    refine RW.guardF rfl rfl rfl rfl ?_
    refine RW.guardF rfl rfl rfl rfl ?_
    refine RW.guardF rfl rfl rfl rfl ?_
    refine RW.guardF rfl rfl rfl rfl ?_
    refine RW.guardF rfl rfl rfl rfl ?_
    refine RW.guardF rfl rfl rfl rfl ?_
    refine RW.guardF rfl rfl rfl rfl ?_
    refine RW.pickB rfl rfl rfl rfl ?_
    refine RW.nil (EX.seq ?_)
    -- mq: cond
    -- mq: cond
    refine CW.condT rfl (rfl) ?_
    refine CW.seq (CW.region ?_)
    refine RW.move rfl rfl ?_
    refine RW.assign rfl rfl ?_
    refine RW.nil (EX.seq (CW.ret (EX.seqR ?_)))
    refine EX.fin1 Try.results14 rfl (fun wz hw => ?_)
    -- mq: done
    exact ⟨by rw [getF, if_pos (show atF (cleanF gs) i = -1 by rw [atF, if_neg (by omega)])], hx0.trans0 (hw.ext.mono (fun x hx _ => by simp [feet] at hx))⟩
  · skip
    have h12p := of_decide_eq_false h12
    refine RW.guardT rfl rfl h12 ?_
    refine RW.move rfl rfl ?_
    refine RW.guardT rfl rfl h12 ?_
    refine RW.move rfl rfl ?_
    refine RW.guardT rfl rfl h12 ?_
    refine RW.lenSl Try.underlying23 rfl rfl ?_
    refine RW.guardT rfl rfl h12 ?_
    refine RW.geq rfl rfl rfl ?_
    refine RW.pickC rfl rfl h12 rfl ?_
    refine RW.move rfl rfl ?_
    -- mq: guard slot 18
    refine RW.casesB 18 rfl (fun h18 => ?_) (fun h18 => ?_)
    · skip
      have h18p := of_decide_eq_true h18
      refine RW.guardF rfl rfl rfl h18 ?_
      refine RW.guardF rfl rfl rfl h18 ?_
      refine RW.guardF rfl rfl rfl h18 ?_
      refine RW.guardF rfl rfl rfl h18 ?_
      refine RW.guardF rfl rfl rfl h18 ?_
      refine RW.guardF rfl rfl rfl h18 ?_
      refine RW.guardF rfl rfl rfl h18 ?_
      refine RW.pickB rfl rfl h18 rfl ?_
      refine RW.nil (EX.seq ?_)
      -- mq: cond
      refine CW.condT rfl (rfl) ?_
      refine CW.seq (CW.region ?_)
      refine RW.move rfl rfl ?_
      refine RW.assign rfl rfl ?_
      refine RW.nil (EX.seq (CW.ret (EX.seqR ?_)))
      refine EX.fin1 Try.results14 rfl (fun wz hw => ?_)
      -- mq: done
      exact ⟨by rw [getF, if_pos (show atF (cleanF gs) i = -1 by rw [atF, if_neg (by omega)])], hx0.trans0 (hw.ext.mono (fun x hx _ => by simp [feet] at hx))⟩
    · skip
      have h18p := of_decide_eq_false h18
      obtain ⟨k, rfl⟩ : ∃ k : Nat, i = k := ⟨i.toNat, by omega⟩
      obtain ⟨g, hg⟩ : ∃ g, (cleanF gs)[k]? = some g := ⟨(cleanF gs)[k]'(by omega), List.getElem?_eq_getElem _⟩
      obtain ⟨ad, X, p, q, hA, _, hcell, hrd⟩ := hrd1.at_ hg
      obtain ⟨y, t, rfl, hy1, hy2⟩ := cleanF_head gs g (List.mem_of_getElem? hg)
      have hp := hrd.len
      simp only [List.length_cons] at hp
      obtain ⟨yd, hB, _, hycell⟩ := hrd.at_ (k := 0) rfl
      have hat := atF_in hg
      refine RW.guardT rfl rfl h18 ?_
      refine RW.move rfl rfl ?_
      refine RW.guardT rfl rfl h18 ?_
      refine RW.move rfl rfl ?_
      refine RW.guardT rfl rfl h18 ?_
      refine RW.ixAddr (q := k) sl23 rfl rfl rfl (by first | rfl | assumption) (by omega) (by omega) ?_
      refine RW.guardT rfl rfl h18 ?_
      refine RW.load1 sc31 rfl rfl (fun w' hw' => hw'.base_cell hcell (by simp [feet])) ?_
      refine RW.guardT rfl rfl h18 ?_
      refine RW.ixAddr (q := 0) sl31 rfl rfl rfl (by first | rfl | assumption) (by omega) (by omega) ?_
      refine RW.guardT rfl rfl h18 ?_
      refine RW.load1 sc3 rfl rfl (fun w' hw' => hw'.base_cell (hycell 0 _ rfl) (by simp [feet])) ?_
      refine RW.guardT rfl rfl h18 ?_
      refine RW.eqlI rfl rfl rfl ?_
      refine RW.pickC rfl rfl h18 rfl ?_
      refine RW.nil (EX.seq ?_)
      -- mq: cond
      first | refine CW.condD rfl (fun h26 => ?_) (fun h26 => ?_) | refine CW.cond rfl (fun h26 => ?_) (fun h26 => ?_)
      · skip
        refine CW.seq (CW.region ?_)
        refine RW.move rfl rfl ?_
        refine RW.assign rfl rfl ?_
        refine RW.nil (EX.seq (CW.ret (EX.seqR ?_)))
        refine EX.fin1 Try.results14 rfl (fun wz hw => ?_)
        -- mq: done
        exact ⟨by rw [getF, hat, if_pos h26], hx0.trans0 (hw.ext.mono (fun x hx _ => by simp [feet] at hx))⟩
      · skip
        refine CW.skip (EX.seq (CW.seq (CW.region ?_)))
        refine RW.move rfl rfl ?_
        refine RW.move rfl rfl ?_
        refine RW.ixAddr (q := k) sl23 rfl rfl rfl (by first | rfl | assumption) (by omega) (by omega) ?_
        refine RW.load1 sc31 rfl rfl (fun w' hw' => hw'.base_cell hcell (by simp [feet])) ?_
        refine RW.ixAddr (q := 0) sl31 rfl rfl rfl (by first | rfl | assumption) (by omega) (by omega) ?_
        refine RW.load1 sc3 rfl rfl (fun w' hw' => hw'.base_cell (hycell 0 _ rfl) (by simp [feet])) ?_
        refine RW.assign rfl rfl ?_
        refine RW.nil (EX.seq (CW.ret ?_))
        refine EX.fin1 Try.results14 rfl (fun wz hw => ?_)
        -- mq: done
        exact ⟨by rw [getF, hat, if_neg h26], hx0.trans0 (hw.ext.mono (fun x hx _ => by simp [feet] at hx))⟩
theorem Count_c (w : World) (F : Nat → Prop) (A : Option Addr) (n c : Nat) (gs : List (List Int)) (hr : RdG w F A n c gs) (hn : n ≤ 1000000) (hm : ∀ g ∈ gs, g.length ≤ 1000000) (i : Int) :
    Calls Try.prog 15 [.slice A n c, .int .i64 i].toArray w (fun e w' => e = .returned (.int .i64 (max 1 (getF gs i 1))) ∧ Ext [] w w') := by
  refine calls (n := 9) Try.func15 rfl Try.ntmps15 rfl ?_
  refine CW.sub (H' := SH w [] []) ?_ (Sub.refl _) (fun x hx => SH.start' _ _ hx)
  refine CW.seq (CW.region ?_)
  refine RW.assign rfl rfl ?_
  refine RW.nil (EX.seq (CW.seq (CW.region ?_)))
  refine RW.move rfl rfl ?_
  refine RW.move rfl rfl ?_
  -- mq: op 2: ('Op.call', ('Call.mk', ('Callee.value', ('Operand.func', '14')), ('arr', ('Operand.tmp', '5'), ('Operand.tmp', '6'), ('Operand.const', ('Value.int', 'IntKind.i64', '1'))), ('arr', '23', '3', '3'))) -> slot 7 ("param.go:111")
  refine RW.call rfl ca14 rfl (fun w' hw' => Get_c w' F A n c gs (hr.ext hw'.ext (by simp)) hn hm i 1) ?_
  refine RW.max2 rfl rfl rfl ?_
  refine RW.assign rfl rfl ?_
  refine RW.nil (EX.seq (CW.ret ?_))
  refine EX.fin1 Try.results15 rfl (fun wz hw => ?_)
  -- mq: done
  exact ⟨rfl, hw.ext⟩
def flatF (gs : List (List Int)) : List Int := (cleanF gs).map (fun g => max 0 (firstF g))
theorem Flat_c (w : World) (F : Nat → Prop) (A : Option Addr) (n c : Nat) (gs : List (List Int)) (hr : RdG w F A n c gs) (hn : n ≤ 1000000) (hm : ∀ g ∈ gs, g.length ≤ 1000000) :
    Calls Try.prog 17 [.slice A n c].toArray w (RetSl EInt w (flatF gs)) := by
  have hcl := cleanF_length gs
  refine calls (n := 22) Try.func17 rfl Try.ntmps17 rfl ?_
  refine CW.sub (H' := SH w [] []) ?_ (Sub.refl _) (fun x hx => SH.start' _ _ hx)
  refine CW.seq (CW.region ?_)
  refine RW.assign rfl rfl ?_
  refine RW.nil (EX.seq (CW.seq ?_))
  -- mq: region
  refine CW.ownNil 3 1 ?_
  refine CW.region ?_
  refine RW.assign rfl rfl ?_
  refine RW.nil (EX.seq (CW.seq (CW.seq (CW.region ?_))))
  refine RW.move rfl rfl ?_
  -- mq: op 1: ('Op.call', ('Call.mk', ('Callee.value', ('Operand.func', '12')), ('arr', ('Operand.tmp', '6')), ('arr', '23'))) -> slot 7 ("param.go:116")
  refine RW.callA (R := fun w0 => IsG (cleanF gs) w0) rfl ca12 rfl (fun w' hw' => (Clean_c w' F A n c gs (hr.ext hw'.ext (by simp)) hn hm).mono (fun e w'' h => h.toA)) ?_
  rintro w0 w1 v hw0 he01 hw1 hlt ⟨A1, n1, c1, rfl, hrd1⟩
  have hx0 : Ext [] w w1 := hw0.ext.trans0 he01
  have hn1 := hrd1.len
  have hf0 : feet [own 3 1 (.slice none 0 0) 0 []] = [] := by simp [feet, own, Value.ownBlock]
  rw [hf0]
  refine RW.lenSl Try.underlying23 rfl rfl ?_
  refine RW.move rfl rfl ?_
  refine RW.nil (EX.seq (CW.block ?_))
  -- mq: loop
  refine CW.loop (ι := Nat × Value) (fun t => [(3, t.2), (7, .slice A1 n1 c1), (8, .int .i64 (n1 : Int)), (9, .int .i64 (t.1 : Int))]) (fun t => SH w1 [] [own 3 1 t.2 t.1 (EInt.all (((cleanF gs).take t.1).map (fun g => max 0 (firstF g))))]) (fun t => t.1 ≤ n1) (fun t => n1 - t.1) ?_ ?_
  · exact fun w' hw' => ⟨(0, .slice none 0 0), Nat.zero_le _, (by repeat (first | exact Sub.nil | refine Sub.cons (by rfl) ?_)), hw'⟩
  · rintro ⟨k, u⟩ hk
    dsimp only at hk ⊢
    refine CW.seq (CW.region ?_)
    refine RW.lss rfl rfl rfl ?_
    refine RW.nil (EX.seq (CW.seq ?_))
    -- mq: cond
    first | refine CW.condD rfl (fun hlt2 => ?_) (fun hlt2 => ?_) | refine CW.cond rfl (fun hlt2 => ?_) (fun hlt2 => ?_)
    · skip
      obtain ⟨g, hg⟩ : ∃ g, (cleanF gs)[k]? = some g := ⟨(cleanF gs)[k]'(by omega), List.getElem?_eq_getElem _⟩
      obtain ⟨ad, X, p, q, hA, _, hcell, hrd⟩ := hrd1.at_ hg
      obtain ⟨y, t, rfl, hy1, hy2⟩ := cleanF_head gs g (List.mem_of_getElem? hg)
      have hp := hrd.len
      simp only [List.length_cons] at hp
      obtain ⟨yd, hB, _, hycell⟩ := hrd.at_ (k := 0) rfl
      refine CW.skip (EX.seq (CW.seq (CW.block (CW.seq (CW.region ?_)))))
      refine RW.ixAddr (q := k) sl23 rfl rfl rfl (by first | rfl | assumption) (by omega) (by omega) ?_
      refine RW.load1 sc31 rfl rfl (fun w' hw' => hw'.base_cell hcell (by simp)) ?_
      refine RW.assign rfl rfl ?_
      refine RW.nil (EX.seq (CW.region ?_))
      refine RW.move rfl rfl ?_
      refine RW.move rfl rfl ?_
      refine RW.ixAddr (q := 0) sl31 rfl rfl rfl (by first | rfl | assumption) (by omega) (by omega) ?_
      refine RW.load1 sc3 rfl rfl (fun w' hw' => hw'.base_cell (hycell 0 _ rfl) (by simp)) ?_
      refine RW.max2 rfl rfl rfl ?_
      refine RW.buildSlc sl31 rfl rfl rfl rfl (fun g18 hg18 hf18 => ?_)
      refine RW.append1 sl31 rfl rfl rfl (by first | exact Rem.head | exact Rem.tail Rem.head | exact Rem.tail (Rem.tail Rem.head) | exact Rem.tail (Rem.tail (Rem.tail Rem.head)) | exact Rem.tail (Rem.tail (Rem.tail (Rem.tail Rem.head))) | exact Rem.tail (Rem.tail (Rem.tail (Rem.tail (Rem.tail Rem.head)))) | exact Rem.tail (Rem.tail (Rem.tail (Rem.tail (Rem.tail (Rem.tail Rem.head)))))) (fun _ => by first | exact Upd.head | exact Upd.tail Upd.head | exact Upd.tail (Upd.tail Upd.head) | exact Upd.tail (Upd.tail (Upd.tail Upd.head)) | exact Upd.tail (Upd.tail (Upd.tail (Upd.tail Upd.head))) | exact Upd.tail (Upd.tail (Upd.tail (Upd.tail (Upd.tail Upd.head)))) | exact Upd.tail (Upd.tail (Upd.tail (Upd.tail (Upd.tail (Upd.tail Upd.head)))))) rfl (by repeat (first | exact Ones.nil | exact Enc.ones _ _ | refine Ones.cons rfl ?_)) (by simp only [maxLen]; omega) (by omega) (fun v19 hv19 => ?_)
      refine RW.assign rfl rfl ?_
      refine RW.nil (EX.bkN (EX.seq (CW.region ?_)))
      refine RW.add rfl rfl rfl (wrap64 (by omega) (by omega)) ?_
      refine RW.move rfl rfl ?_
      refine RW.nil ?_
      -- mq: loopend
      refine EX.lpN (k + 1, v19) (by dsimp only; omega) (by dsimp only; omega) (by repeat (first | exact Sub.nil | refine Sub.cons (by rfl) ?_)) (fun w' hw' => ?_)
      dsimp only
      rw [take_snoc' hg, List.map_append, List.map_cons, List.map_nil, Enc.all_snoc EInt]
      exact hw'
    · skip
      have hkn : k = n1 := by omega
      subst hkn
      rw [List.take_of_length_le (by omega)]
      refine CW.exit (EX.seqE (EX.lpE (EX.bkE (EX.seq (CW.seq (CW.region ?_))))))
      refine RW.move rfl rfl ?_
      refine RW.assign rfl rfl ?_
      refine RW.nil (EX.seq (CW.ret ?_))
      refine EX.fin1 Try.results17 rfl (fun wz hw => ?_)
      -- mq: done
      refine RetSl.of_own (hx0.trans0 hw.ext) (hw.has Has.head) (by rw [flatF, List.length_map]; omega) (fun g hg => ?_)
      have e0 := hx0.size
      rcases Nat.lt_or_ge g w1.heap.size with h | h
      · exact absurd (hw.cov g (by rw [feet_cons]; exact List.mem_append.2 (.inl (Option.mem_toList.2 hg))) h) (by simp)
      · omega
theorem gets_c (w : World) (F : Nat → Prop) (A : Option Addr) (n c : Nat) (gs : List (List Int)) (hr : RdG w F A n c gs) (i usual : Int) :
    Calls Try.prog 6 [.slice A n c, .int .i64 i, .int .i64 usual].toArray w (fun e w' => e = .returned (.bool true) ∧ Ext [] w w') := by
  have hl := hr.len
  have hcl := cleanF_length gs
  refine calls (n := 90) Try.func6 rfl Try.ntmps6 rfl ?_
  refine CW.sub (H' := SH w [] []) ?_ (Sub.refl _) (fun x hx => SH.start' _ _ hx)
  refine CW.seq (CW.region ?_)
  refine RW.assign rfl rfl ?_
  refine RW.nil (EX.seq (CW.seq (CW.seq (CW.region ?_))))
  refine RW.move rfl rfl ?_
  -- mq: op 1: ('Op.call', ('Call.mk', ('Callee.value', ('Operand.func', '11')), ('arr', ('Operand.tmp', '13')), ('arr', '23'))) -> slot 14 ("law.go:73")
  refine RW.call rfl ca11 rfl (fun w' hw' => Great_c w' F A n c gs (hr.ext hw'.ext (by simp))) ?_
  refine RW.nil (EX.seq ?_)
  -- mq: cond
  first | refine CW.condD rfl (fun h1 => ?_) (fun h1 => ?_) | refine CW.cond rfl (fun h1 => ?_) (fun h1 => ?_)
  · skip
    refine CW.seq (CW.region ?_)
    refine RW.call rfl ca7 rfl (fun w' _ => awake_c w') ?_
    refine RW.assign rfl rfl ?_
    refine RW.nil (EX.seq (CW.ret (EX.seqR ?_)))
    refine EX.fin1 Try.results6 rfl (fun wz hw => ?_)
    -- mq: done
    exact ⟨rfl, hw.ext⟩
  · skip
    obtain ⟨hb1, hb2⟩ := greatB_false (by simpa using h1)
    have hm : ∀ g ∈ gs, g.length ≤ 1000000 := fun g hg => by have := hb2 g hg; omega
    refine CW.skip (EX.seq (CW.seq (CW.region ?_)))
    refine RW.move rfl rfl ?_
    -- mq: op 1: ('Op.call', ('Call.mk', ('Callee.value', ('Operand.func', '13')), ('arr', ('Operand.tmp', '16')), ('arr', '23'))) -> slot 17 ("law.go:76")
    refine RW.callA (R := fun w0 => IsG (cleanF gs) w0) rfl ca13 rfl (fun w' hw' => (refClean_c w' F A n c gs (hr.ext hw'.ext (by simp)) (by omega) hm).mono (fun e w'' h => h.toA)) ?_
    rintro w0 w1 v hw0 he01 hw1 hlt ⟨A1, n1, c1, rfl, hrd1⟩
    have hx0 : Ext [] w w1 := hw0.ext.trans0 he01
    have hn1 := hrd1.len
    have hr1 := hr.ext hx0 (by simp)
    rw [show feet ([] : List Chunk) = [] from rfl]
    refine RW.assign rfl rfl ?_
    refine RW.nil (EX.seq (CW.seq (CW.region ?_)))
    refine RW.move rfl rfl ?_
    refine RW.assign rfl rfl ?_
    refine RW.assign rfl rfl ?_
    refine RW.nil (EX.seq (CW.seq ?_))
    -- mq: seq
    refine CW.join ([(0, .slice A n c), (1, .int .i64 i), (2, .int .i64 usual), (7, .slice A1 n1 c1), (8, .int .i64 (getF gs i usual)), (9, .int .i64 (getF gs i 1))]) (SH w1 [] []) ?_ ?_
    · skip
      refine CW.seq (CW.region ?_)
      refine RW.move rfl rfl ?_
      refine RW.geq rfl rfl rfl ?_
      refine RW.move rfl rfl ?_
      -- mq: guard slot 21
      refine RW.casesB 21 rfl (fun h21 => ?_) (fun h21 => ?_)
      · skip
        have h21p := of_decide_eq_true h21
        refine RW.guardT rfl rfl h21 ?_
        refine RW.move rfl rfl ?_
        refine RW.guardT rfl rfl h21 ?_
        refine RW.move rfl rfl ?_
        refine RW.guardT rfl rfl h21 ?_
        refine RW.lenSl Try.underlying23 rfl rfl ?_
        refine RW.guardT rfl rfl h21 ?_
        refine RW.lss rfl rfl rfl ?_
        refine RW.pickB rfl rfl h21 rfl ?_
        refine RW.move rfl rfl ?_
        -- mq: guard slot 27
        refine RW.casesB 27 rfl (fun h27 => ?_) (fun h27 => ?_)
        · skip
          have h27p := of_decide_eq_true h27
          obtain ⟨k, rfl⟩ : ∃ k : Nat, i = k := ⟨i.toNat, by omega⟩
          obtain ⟨g, hg⟩ : ∃ g, (cleanF gs)[k]? = some g := ⟨(cleanF gs)[k]'(by omega), List.getElem?_eq_getElem _⟩
          obtain ⟨ad, X, p, q, hA, _, hcell, hrd⟩ := hrd1.at_ hg
          obtain ⟨y, t, rfl, hy1, hy2⟩ := cleanF_head gs g (List.mem_of_getElem? hg)
          have hp := hrd.len
          simp only [List.length_cons] at hp
          obtain ⟨yd, hB, _, hycell⟩ := hrd.at_ (k := 0) rfl
          have hat := atF_in hg
          refine RW.guardT rfl rfl h27 ?_
          refine RW.move rfl rfl ?_
          refine RW.guardT rfl rfl h27 ?_
          refine RW.move rfl rfl ?_
          refine RW.guardT rfl rfl h27 ?_
          refine RW.ixAddr (q := k) sl23 rfl rfl rfl (by first | rfl | assumption) (by omega) (by omega) ?_
          refine RW.guardT rfl rfl h27 ?_
          refine RW.load1 sc31 rfl rfl (fun w' hw' => hw'.base_cell hcell (by simp)) ?_
          refine RW.guardT rfl rfl h27 ?_
          refine RW.ixAddr (q := 0) sl31 rfl rfl rfl (by first | rfl | assumption) (by omega) (by omega) ?_
          refine RW.guardT rfl rfl h27 ?_
          refine RW.load1 sc3 rfl rfl (fun w' hw' => hw'.base_cell (hycell 0 _ rfl) (by simp)) ?_
          refine RW.guardT rfl rfl h27 ?_
          refine RW.geq rfl rfl rfl ?_
          refine RW.pickB rfl rfl h27 rfl ?_
          refine RW.nil (EX.seq ?_)
          -- mq: cond
          first | refine CW.condD rfl (fun h35 => ?_) (fun h35 => ?_) | refine CW.cond rfl (fun h35 => ?_) (fun h35 => ?_)
          · skip
            have hne : ¬ y = -1 := by omega
            refine CW.drawq mixed (by kernel_rfl) (fun _ hw => hw.drew) ?_
            refine DRq.cons rfl (RW.move rfl rfl RW.jn) ?_
            refine DRq.cons rfl (RW.move rfl rfl RW.jn) ?_
            refine DRq.cons rfl (RW.ixAddr (q := k) sl23 rfl rfl rfl (by first | rfl | assumption) (by omega) (by omega) RW.jn) ?_
            refine DRq.cons rfl (RW.load1 sc31 rfl rfl (fun w' hw' => hw'.base_cell hcell (by simp)) RW.jn) ?_
            refine DRq.cons rfl (RW.ixAddr (q := 0) sl31 rfl rfl rfl (by first | rfl | assumption) (by omega) (by omega) RW.jn) ?_
            refine DRq.cons rfl (RW.load1 sc3 rfl rfl (fun w' hw' => hw'.base_cell (hycell 0 _ rfl) (by simp)) RW.jn) ?_
            refine DRq.cons rfl (RW.move rfl rfl RW.jn) ?_
            refine DRq.cons rfl (RW.move rfl rfl RW.jn) ?_
            refine DRq.cons rfl (RW.ixAddr (q := k) sl23 rfl rfl rfl (by first | rfl | assumption) (by omega) (by omega) RW.jn) ?_
            refine DRq.cons rfl (RW.load1 sc31 rfl rfl (fun w' hw' => hw'.base_cell hcell (by simp)) RW.jn) ?_
            refine DRq.cons rfl (RW.ixAddr (q := 0) sl31 rfl rfl rfl (by first | rfl | assumption) (by omega) (by omega) RW.jn) ?_
            refine DRq.cons rfl (RW.load1 sc3 rfl rfl (fun w' hw' => hw'.base_cell (hycell 0 _ rfl) (by simp)) RW.jn) ?_
            refine DRq.cons rfl (RW.assign rfl rfl RW.jn) ?_
            refine DRq.cons rfl (RW.assign rfl rfl RW.jn) ?_
            refine DRq.nil ?_
            -- mq: joinend
            rw [getF, getF, hat, if_neg hne, if_neg hne]
            exact EX.jn (by repeat (first | exact Sub.nil | refine Sub.cons (by rfl) ?_)) (fun _ h => h)
          · skip
            refine CW.skip ?_
            -- mq: joinend
            rw [getF, getF, hat, if_pos (by omega), if_pos (by omega)]
            exact EX.jn (by repeat (first | exact Sub.nil | refine Sub.cons (by rfl) ?_)) (fun _ h => h)
        · skip
          have h27p := of_decide_eq_false h27
          refine RW.guardF rfl rfl rfl h27 ?_
          refine RW.guardF rfl rfl rfl h27 ?_
          refine RW.guardF rfl rfl rfl h27 ?_
          refine RW.guardF rfl rfl rfl h27 ?_
          refine RW.guardF rfl rfl rfl h27 ?_
          refine RW.guardF rfl rfl rfl h27 ?_
          refine RW.guardF rfl rfl rfl h27 ?_
          refine RW.pickC rfl rfl h27 rfl ?_
          refine RW.nil (EX.seq ?_)
          -- mq: cond
          refine CW.condF rfl (rfl) ?_
          refine CW.skip ?_
          -- mq: joinend
          have hat : atF (cleanF gs) i = -1 := by rw [atF, if_neg (by omega)]
          rw [getF, getF, hat, if_pos rfl, if_pos rfl]
          exact EX.jn (by repeat (first | exact Sub.nil | refine Sub.cons (by rfl) ?_)) (fun _ h => h)
      · skip
        have h21p := of_decide_eq_false h21
        refine RW.guardF rfl rfl rfl h21 ?_
        refine RW.guardF rfl rfl rfl h21 ?_
        refine RW.guardF rfl rfl rfl h21 ?_
        refine RW.guardF rfl rfl rfl h21 ?_
        refine RW.pickC rfl rfl h21 rfl ?_
        refine RW.move rfl rfl ?_
        refine RW.guardF rfl rfl rfl rfl ?_
        refine RW.guardF rfl rfl rfl rfl ?_
        refine RW.guardF rfl rfl rfl rfl ?_
        refine RW.guardF rfl rfl rfl rfl ?_
        refine RW.guardF rfl rfl rfl rfl ?_
        refine RW.guardF rfl rfl rfl rfl ?_
        refine RW.guardF rfl rfl rfl rfl ?_
        refine RW.pickC rfl rfl rfl rfl ?_
        refine RW.nil (EX.seq ?_)
        -- mq: cond
        -- mq: cond
        refine CW.condF rfl (rfl) ?_
        refine CW.skip ?_
        -- mq: joinend
        have hat : atF (cleanF gs) i = -1 := by rw [atF, if_neg (by omega)]
        rw [getF, getF, hat, if_pos rfl, if_pos rfl]
        exact EX.jn (by repeat (first | exact Sub.nil | refine Sub.cons (by rfl) ?_)) (fun _ h => h)
    · skip
      have hge : 0 ≤ getF gs i 1 := by
        unfold getF
        split
        · omega
        · rename_i hne
          have : -1 ≤ atF (cleanF gs) i := by
            unfold atF
            split
            · rename_i hin
              obtain ⟨g, hg⟩ : ∃ g, (cleanF gs)[i.toNat]? = some g := ⟨(cleanF gs)[i.toNat]'(by omega), List.getElem?_eq_getElem _⟩
              obtain ⟨y, t, rfl, hy1, hy2⟩ := cleanF_head gs g (List.mem_of_getElem? hg)
              simp [firstF, List.getD, hg]; omega
            · omega
          omega
      refine EX.seq (CW.seq ?_)
      -- mq: seq
      refine CW.join ([(0, .slice A n c), (1, .int .i64 i), (2, .int .i64 usual), (7, .slice A1 n1 c1), (8, .int .i64 (getF gs i usual)), (9, .int .i64 (max 1 (getF gs i 1)))]) (SH w1 [] []) ?_ ?_
      · skip
        refine CW.seq (CW.region ?_)
        refine RW.move rfl rfl ?_
        refine RW.eqlI rfl rfl rfl ?_
        refine RW.nil (EX.seq ?_)
        -- mq: cond
        first | refine CW.condD rfl (fun h49 => ?_) (fun h49 => ?_) | refine CW.cond rfl (fun h49 => ?_) (fun h49 => ?_)
        · skip
          refine CW.region ?_
          refine RW.assign rfl rfl ?_
          refine RW.nil ?_
          -- mq: joinend
          exact EX.jn (Sub.cons (by rfl) (Sub.cons (by rfl) (Sub.cons (by rfl) (Sub.cons (by rfl) (Sub.cons (by rfl) (Sub.cons (congrArg (fun x => some (Value.int .i64 x)) (by omega)) Sub.nil)))))) (fun _ h => h)
        · skip
          refine CW.skip ?_
          -- mq: joinend
          exact EX.jn (Sub.cons (by rfl) (Sub.cons (by rfl) (Sub.cons (by rfl) (Sub.cons (by rfl) (Sub.cons (by rfl) (Sub.cons (congrArg (fun x => some (Value.int .i64 x)) (by omega)) Sub.nil)))))) (fun _ h => h)
      · skip
        refine EX.seq (CW.seq ?_)
        -- mq: region
        refine CW.ownNil 3 1 ?_
        refine CW.region ?_
        refine RW.assign rfl rfl ?_
        refine RW.nil (EX.seq (CW.seq (CW.seq (CW.region ?_))))
        refine RW.assign rfl rfl ?_
        refine RW.nil (EX.seq (CW.block ?_))
        -- mq: loop
        refine CW.loop (ι := Nat × Value) (fun t => [(0, .slice A n c), (1, .int .i64 i), (2, .int .i64 usual), (7, .slice A1 n1 c1), (8, .int .i64 (getF gs i usual)), (9, .int .i64 (max 1 (getF gs i 1))), (10, t.2), (11, .int .i64 (t.1 : Int))]) (fun t => SH w1 [] [own 3 1 t.2 t.1 (EInt.all (((cleanF gs).take t.1).map (fun g => max 0 (firstF g))))]) (fun t => t.1 ≤ n1) (fun t => n1 - t.1) ?_ ?_
        · exact fun w' hw' => ⟨(0, .slice none 0 0), Nat.zero_le _, (by repeat (first | exact Sub.nil | refine Sub.cons (by rfl) ?_)), hw'⟩
        · rintro ⟨k, u⟩ hk
          dsimp only at hk ⊢
          refine CW.seq (CW.seq (CW.region ?_))
          refine RW.move rfl rfl ?_
          refine RW.move rfl rfl ?_
          refine RW.lenSl Try.underlying23 rfl rfl ?_
          refine RW.lss rfl rfl rfl ?_
          refine RW.nil (EX.seq ?_)
          -- mq: cond
          first | refine CW.condD rfl (fun hlt2 => ?_) (fun hlt2 => ?_) | refine CW.cond rfl (fun hlt2 => ?_) (fun hlt2 => ?_)
          · skip
            obtain ⟨g, hg⟩ : ∃ g, (cleanF gs)[k]? = some g := ⟨(cleanF gs)[k]'(by omega), List.getElem?_eq_getElem _⟩
            obtain ⟨ad, X, p, q, hA, _, hcell, hrd⟩ := hrd1.at_ hg
            obtain ⟨y, t, rfl, hy1, hy2⟩ := cleanF_head gs g (List.mem_of_getElem? hg)
            have hp := hrd.len
            simp only [List.length_cons] at hp
            obtain ⟨yd, hB, _, hycell⟩ := hrd.at_ (k := 0) rfl
            refine CW.skip (EX.seq (CW.seq (CW.block (CW.seq (CW.region ?_)))))
            refine RW.move rfl rfl ?_
            refine RW.move rfl rfl ?_
            refine RW.ixAddr (q := k) sl23 rfl rfl rfl (by first | rfl | assumption) (by omega) (by omega) ?_
            refine RW.load1 sc31 rfl rfl (fun w' hw' => hw'.base_cell hcell (by simp)) ?_
            refine RW.ixAddr (q := 0) sl31 rfl rfl rfl (by first | rfl | assumption) (by omega) (by omega) ?_
            refine RW.load1 sc3 rfl rfl (fun w' hw' => hw'.base_cell (hycell 0 _ rfl) (by simp)) ?_
            refine RW.assign rfl rfl ?_
            refine RW.nil (EX.seq (CW.seq ?_))
            -- mq: seq
            refine CW.join ([(12, .int .i64 (max 0 y)), (0, .slice A n c), (1, .int .i64 i), (2, .int .i64 usual), (7, .slice A1 n1 c1), (8, .int .i64 (getF gs i usual)), (9, .int .i64 (max 1 (getF gs i 1))), (10, u), (11, .int .i64 (k : Int))]) (SH w1 [] [own 3 1 u k (EInt.all (((cleanF gs).take k).map (fun g => max 0 (firstF g))))]) ?_ ?_
            · skip
              refine CW.seq (CW.region ?_)
              refine RW.move rfl rfl ?_
              refine RW.lss rfl rfl rfl ?_
              refine RW.nil (EX.seq ?_)
              -- mq: cond
              first | refine CW.condD rfl (fun h63 => ?_) (fun h63 => ?_) | refine CW.cond rfl (fun h63 => ?_) (fun h63 => ?_)
              · skip
                refine CW.region ?_
                refine RW.assign rfl rfl ?_
                refine RW.nil ?_
                -- mq: joinend
                exact EX.jn (Sub.cons (congrArg (fun x => some (Value.int .i64 x)) (by omega)) (by repeat (first | exact Sub.nil | refine Sub.cons (by rfl) ?_))) (fun _ h => h)
              · skip
                refine CW.skip ?_
                -- mq: joinend
                exact EX.jn (Sub.cons (congrArg (fun x => some (Value.int .i64 x)) (by omega)) (by repeat (first | exact Sub.nil | refine Sub.cons (by rfl) ?_))) (fun _ h => h)
            · skip
              refine EX.seq (CW.region ?_)
              refine RW.move rfl rfl ?_
              refine RW.move rfl rfl ?_
              refine RW.buildSlc sl31 rfl rfl rfl rfl (fun g66 hg66 hf66 => ?_)
              refine RW.append1 sl31 rfl rfl rfl (by first | exact Rem.head | exact Rem.tail Rem.head | exact Rem.tail (Rem.tail Rem.head) | exact Rem.tail (Rem.tail (Rem.tail Rem.head)) | exact Rem.tail (Rem.tail (Rem.tail (Rem.tail Rem.head))) | exact Rem.tail (Rem.tail (Rem.tail (Rem.tail (Rem.tail Rem.head)))) | exact Rem.tail (Rem.tail (Rem.tail (Rem.tail (Rem.tail (Rem.tail Rem.head)))))) (fun _ => by first | exact Upd.head | exact Upd.tail Upd.head | exact Upd.tail (Upd.tail Upd.head) | exact Upd.tail (Upd.tail (Upd.tail Upd.head)) | exact Upd.tail (Upd.tail (Upd.tail (Upd.tail Upd.head))) | exact Upd.tail (Upd.tail (Upd.tail (Upd.tail (Upd.tail Upd.head)))) | exact Upd.tail (Upd.tail (Upd.tail (Upd.tail (Upd.tail (Upd.tail Upd.head)))))) rfl (by repeat (first | exact Ones.nil | exact Enc.ones _ _ | refine Ones.cons rfl ?_)) (by simp only [maxLen]; omega) (by omega) (fun v67 hv67 => ?_)
              refine RW.assign rfl rfl ?_
              refine RW.nil (EX.bkN (EX.seq (CW.region ?_)))
              refine RW.move rfl rfl ?_
              refine RW.add rfl rfl rfl (wrap64 (by omega) (by omega)) ?_
              refine RW.assign rfl rfl ?_
              refine RW.nil ?_
              -- mq: loopend
              refine EX.lpN (k + 1, v67) (by dsimp only; omega) (by dsimp only; omega) (by repeat (first | exact Sub.nil | refine Sub.cons (by rfl) ?_)) (fun w' hw' => ?_)
              dsimp only
              rw [take_snoc' hg, List.map_append, List.map_cons, List.map_nil, Enc.all_snoc EInt]
              exact hw'
          · skip
            have hkn : k = n1 := by omega
            subst hkn
            rw [List.take_of_length_le (by omega)]
            refine CW.formOwn (v := u) Has.head (fun Au cu hvu hcapu hmaxu hlenu hgu => ?_)
            subst hvu
            have hflen : (flatF gs).length = k := by rw [flatF, List.length_map]; omega
            refine CW.exit (EX.seqE (EX.lpE (EX.bkE (EX.seq (CW.seq (CW.region ?_))))))
            refine RW.move rfl rfl ?_
            refine RW.move rfl rfl ?_
            refine RW.move rfl rfl ?_
            -- mq: op 3: ('Op.call', ('Call.mk', ('Callee.value', ('Operand.func', '14')), ('arr', ('Operand.tmp', '68'), ('Operand.tmp', '69'), ('Operand.tmp', '70')), ('arr', '23', '3', '3'))) -> slot 71 ("law.go:92")
            refine RW.call rfl ca14 rfl (fun w' hw' => Get_c w' F A n c gs (hr1.ext hw'.ext (by simp)) (by omega) hm i usual) ?_
            refine RW.move rfl rfl ?_
            refine RW.eqlI rfl rfl rfl ?_
            refine RW.move rfl rfl ?_
            refine RW.guardT rfl rfl (by simp) ?_
            refine RW.move rfl rfl ?_
            refine RW.guardT rfl rfl (by simp) ?_
            refine RW.move rfl rfl ?_
            refine RW.guardT rfl rfl (by simp) ?_
            -- mq: op 9: ('Op.call', ('Call.mk', ('Callee.value', ('Operand.func', '15')), ('arr', ('Operand.tmp', '75'), ('Operand.tmp', '76')), ('arr', '23', '3'))) -> slot 77 ("law.go:92")
            refine RW.call rfl ca15 rfl (fun w' hw' => Count_c w' F A n c gs (hr1.ext hw'.ext (by simp)) (by omega) hm i) ?_
            refine RW.guardT rfl rfl (by simp) ?_
            refine RW.move rfl rfl ?_
            refine RW.guardT rfl rfl (by simp) ?_
            refine RW.eqlI rfl rfl rfl ?_
            refine RW.pickB rfl rfl (by simp) rfl ?_
            refine RW.move rfl rfl ?_
            refine RW.guardT rfl rfl (by simp) ?_
            refine RW.move rfl rfl ?_
            refine RW.guardT rfl rfl (by simp) ?_
            -- mq: op 15: ('Op.call', ('Call.mk', ('Callee.value', ('Operand.func', '17')), ('arr', ('Operand.tmp', '82')), ('arr', '23'))) -> slot 83 ("law.go:92")
            refine RW.callK rfl ca17 rfl (fun w' hw' => Flat_c w' F A n c gs (hr1.ext hw'.ext (by simp)) (by omega) hm) (fun w2 w3 A4 n4 c4 hw2 he23 hw3 hlt3 hrd4 => ?_)
            have hn4 := hrd4.len
            refine RW.guardT rfl rfl (by simp) ?_
            refine RW.move rfl rfl ?_
            refine RW.guardT rfl rfl (by simp) ?_
            -- mq: op 17: ('Op.call', ('Call.mk', ('Callee.value', ('Operand.func', '16')), ('arr', ('Operand.tmp', '83'), ('Operand.tmp', '84')), ('arr', '31', '31'))) -> slot 85 ("law.go:92")
            refine RW.call (v := .bool true) rfl ca16 rfl (fun w' hw' => ?_) ?_
            · have hown := hw'.has (c := own 3 1 (.slice Au k cu) k (EInt.all (flatF gs))) Has.head
              obtain ⟨A6, c6, he6, hrd6⟩ := Rd.of_own (E := EInt) hown hflen
              cases he6
              exact Ints_c w' _ _ _ _ _ _ _ _ (flatF gs) (hrd4.ext hw'.ext (fun k hk hk2 => by have := hlt3 k hk2; omega)) hrd6 (by omega)
            refine RW.pickB rfl rfl (by simp) rfl ?_
            refine RW.move rfl rfl ?_
            refine RW.guardT rfl rfl rfl ?_
            -- mq: op 20: ('Op.call', ('Call.mk', ('Callee.value', ('Operand.func', '7')), ('arr',), ('arr',))) -> slot 88 ("law.go:92")
            refine RW.call rfl ca7 rfl (fun w' _ => awake_c w') ?_
            refine RW.pickB rfl rfl rfl rfl ?_
            refine RW.assign rfl rfl ?_
            refine RW.nil (EX.seq (CW.ret ?_))
            refine EX.fin1 Try.results6 rfl (fun wz hw => ?_)
            -- mq: done
            refine ⟨rfl, ((hx0.trans0 hw2.ext).trans0 he23).trans hw.ext (fun x hx hlt2 => ?_)⟩
            have e0 := hx0.size
            exact absurd (hw2.cov x hx (by omega)) (by simp)
end Go.Proofs.Ytkpkffjhngapjaa.Mq
