/- osc: the laws -/
import Derived.Test.YtemcblinkicblaaDoorO9
import Derived.Test.YtemcblinkicblaaDoorDrawU
namespace Go.Proofs.YtemcblinkicblaaDoor.Mq
open Go Go.RowKit Go.Proofs

section
variable {P : Program} {n : Nat} {ops : Array Oper} {Q : Post} {rest : List Oper} {l : Fr} {H : World → Prop} {d : Nat} {ty : TypeId} {pos : String} {af : Array Edge} {x : Operand}
theorem RW.fieldS {s i off : Nat} {v : Value} {cs : List Value} {fs : Array Field} {f : Field} {ds : TypeDesc} (h1 : P.underlying s = some (.struct fs)) (h2 : fs[i]? = some f) (h3 : P.underlying f.type = some ds) (h4 : notAgg ds = true) (h5 : f.offset = off)
    (hd : Nat.blt d n = true) (hx : ev l x = some (.agg cs.toArray)) (hv : cs[off]? = some v)
    (h : RW P n ops Q rest ((d, v) :: l) H) : RW P n ops Q (⟨some d, .field s x i, ty, pos, af, none⟩ :: rest) l H := by
  refine RW.val _ hd (fun ρ w hρ => ?_) h
  have e1 : (Instr.field s (.agg cs.toArray) i).run P w = .ok v w := by
    simp [Instr.field, run_underlying h1, h2, part, run_isAgg h3, h4, h5, hv, asAgg]
  simp [execOp, hρ x _ hx, e1]
end
theorem SgV.ext' {a b : SgV} (h : a.kind = b.kind ∧ a.code = b.code ∧ a.has = b.has ∧ a.text = b.text) : a = b := by
  obtain ⟨a1, a2, a3, a4⟩ := a
  obtain ⟨b1, b2, b3, b4⟩ := b
  obtain ⟨rfl, rfl, rfl, rfl⟩ := h
  rfl
instance : DecidableEq SgV := fun a b =>
  if h : a.kind = b.kind ∧ a.code = b.code ∧ a.has = b.has ∧ a.text = b.text then isTrue (SgV.ext' h)
  else isFalse fun e => h (by subst e; exact ⟨rfl, rfl, rfl, rfl⟩)
theorem heqG (a b : SgV) : eqv a.cells b.cells = decide (a = b) := by
  rw [Bool.eq_iff_iff]
  simp only [eqv, veq, Bool.and_eq_true, decide_eq_true_eq, Bool.and_true, beq_iff_eq, bs]
  constructor
  · rintro ⟨h1, h2, h3, h4⟩
    exact SgV.ext' ⟨h1, h2, h3, by simpa using h4⟩
  · rintro rfl; simp
theorem ex1 : readO [49, 51, 51, 59, 68, 59, 49] = ⟨4, 1, true, []⟩ := by kernel_rfl
theorem ex2 : readO [54, 51, 51, 59, 69, 59, 97, 92, 120, 51, 98, 98] = ⟨5, 0, false, [97, 59, 98]⟩ := by
  have h := back_o (x := ⟨5, 0, false, [97, 59, 98]⟩) (by decide) (by decide) (by decide)
  exact h
theorem awake_c (w : World) (hg : GO w) : Calls Tryd.prog 9 [].toArray w (fun e w' => e = .returned (.bool true) ∧ Ext [] w w') := by
  have h1 := fun w' (h : GO w') => Read_c w' h [49, 51, 51, 59, 68, 59, 49] (by decide)
  have h2 := fun w' (h : GO w') => Read_c w' h [54, 51, 51, 59, 69, 59, 97, 92, 120, 51, 98, 98] (by decide)
  rw [ex1] at h1
  rw [ex2] at h2
  refine calls (n := 9) Tryd.func9 rfl Tryd.ntmps9 rfl ?_
  refine CW.sub (H' := SH w [] []) ?_ (Sub.refl _) (fun x hx => SH.start' _ _ hx)
  refine CW.seq (CW.region ?_)
  refine RW.assign rfl rfl ?_
  refine RW.nil (EX.seq (CW.seq ?_))
  -- mq: region
  refine CW.region ?_
  refine RW.call rfl ca10 rfl (fun w' hw' => h1 w' (hg.ext hw'.ext)) ?_
  refine RW.buildS bu24 rfl rfl rfl ?_
  refine RW.eqlSt eq24 rfl rfl rfl (by kernel_rfl) (heqG ⟨4, 1, true, []⟩ ⟨4, 1, true, []⟩) ?_
  refine RW.move rfl rfl ?_
  refine RW.guardT rfl rfl (decide_eq_true rfl) ?_
  refine RW.call rfl ca10 rfl (fun w' hw' => h2 w' (hg.ext hw'.ext)) ?_
  refine RW.guardT rfl rfl (decide_eq_true rfl) ?_
  refine RW.buildS bu24 rfl rfl rfl ?_
  refine RW.guardT rfl rfl (decide_eq_true rfl) ?_
  refine RW.eqlSt eq24 rfl rfl rfl (by kernel_rfl) (heqG ⟨5, 0, false, [97, 59, 98]⟩ ⟨5, 0, false, [97, 59, 98]⟩) ?_
  refine RW.pickB rfl rfl (decide_eq_true rfl) rfl ?_
  refine RW.assign rfl rfl ?_
  refine RW.nil (EX.seq (CW.ret ?_))
  refine EX.fin1 Tryd.results9 rfl (fun wz hw => ?_)
  -- mq: done
  exact ⟨by rw [decide_eq_true rfl], hw.ext⟩
theorem reads_c (w : World) (hg : GO w) (s : List UInt8) :
    Calls Tryd.prog 3 [.string (bs s)].toArray w (fun e w' => e = .returned (.bool true) ∧ Ext [] w w') := by
  refine calls (n := 15) Tryd.func3 rfl Tryd.ntmps3 rfl ?_
  refine CW.sub (H' := SH w [] []) ?_ (Sub.refl _) (fun x hx => SH.start' _ _ hx)
  refine CW.seq (CW.region ?_)
  refine RW.assign rfl rfl ?_
  refine RW.nil (EX.seq (CW.seq (CW.seq (CW.region ?_))))
  refine RW.move rfl rfl ?_
  refine RW.lenS Tryd.underlying9 rfl rfl ?_
  refine RW.gtr rfl rfl rfl ?_
  refine RW.nil (EX.seq ?_)
  -- mq: cond
  first | refine CW.condD rfl (fun h1 => ?_) (fun h1 => ?_) | refine CW.cond rfl (fun h1 => ?_) (fun h1 => ?_)
  · skip
    refine CW.seq (CW.region ?_)
    refine RW.call rfl ca9 rfl (fun w' hw' => awake_c w' (hg.ext hw'.ext)) ?_
    refine RW.assign rfl rfl ?_
    refine RW.nil (EX.seq (CW.ret (EX.seqR ?_)))
    refine EX.fin1 Tryd.results3 rfl (fun wz hw => ?_)
    -- mq: done
    exact ⟨rfl, hw.ext⟩
  · skip
    have hr := fun w' (h : GO w') => Read_c w' h s (by omega)
    have hq := fun w' => Read17_c w' s (by omega)
    generalize readO s = x at hr hq
    refine CW.skip (EX.seq (CW.seq (CW.region ?_)))
    refine RW.move rfl rfl ?_
    refine RW.call rfl ca10 rfl (fun w' hw' => hr w' (hg.ext hw'.ext)) ?_
    refine RW.move rfl rfl ?_
    refine RW.call rfl ca11 rfl (fun w' _ => hq w') ?_
    refine RW.eqlSt eq24 rfl rfl rfl (by kernel_rfl) (heqG x x) ?_
    refine RW.move rfl rfl ?_
    refine RW.guardT rfl rfl (decide_eq_true rfl) ?_
    refine RW.call rfl ca9 rfl (fun w' hw' => awake_c w' (hg.ext hw'.ext)) ?_
    refine RW.pickB rfl rfl (decide_eq_true rfl) rfl ?_
    refine RW.assign rfl rfl ?_
    refine RW.nil (EX.seq (CW.ret ?_))
    refine EX.fin1 Tryd.results3 rfl (fun wz hw => ?_)
    -- mq: done
    exact ⟨rfl, hw.ext⟩
theorem codes_c (w : World) (hg : GO w) (s : List UInt8) :
    Calls Tryd.prog 4 [.string (bs s)].toArray w (fun e w' => e = .returned (.bool true) ∧ Ext [] w w') := by
  refine calls (n := 32) Tryd.func4 rfl Tryd.ntmps4 rfl ?_
  refine CW.sub (H' := SH w [] []) ?_ (Sub.refl _) (fun x hx => SH.start' _ _ hx)
  refine CW.seq (CW.region ?_)
  refine RW.assign rfl rfl ?_
  refine RW.nil (EX.seq (CW.seq (CW.seq (CW.region ?_))))
  refine RW.move rfl rfl ?_
  refine RW.lenS Tryd.underlying9 rfl rfl ?_
  refine RW.gtr rfl rfl rfl ?_
  refine RW.nil (EX.seq ?_)
  -- mq: cond
  first | refine CW.condD rfl (fun h1 => ?_) (fun h1 => ?_) | refine CW.cond rfl (fun h1 => ?_) (fun h1 => ?_)
  · skip
    refine CW.seq (CW.region ?_)
    refine RW.call rfl ca9 rfl (fun w' hw' => awake_c w' (hg.ext hw'.ext)) ?_
    refine RW.assign rfl rfl ?_
    refine RW.nil (EX.seq (CW.ret (EX.seqR ?_)))
    refine EX.fin1 Tryd.results4 rfl (fun wz hw => ?_)
    -- mq: done
    exact ⟨rfl, hw.ext⟩
  · skip
    have hr := fun w' => Code_c w' s (by omega)
    have hq := fun w' => Code17_c w' s (by omega)
    generalize codeF s = p at hr hq
    obtain ⟨n, b⟩ := p
    refine CW.skip (EX.seq (CW.seq (CW.region ?_)))
    refine RW.move rfl rfl ?_
    refine RW.call (v := codV (n, b)) rfl ca12 rfl (fun w' _ => hr w') ?_
    refine RW.move rfl rfl ?_
    refine RW.extract rfl rfl rfl ?_
    refine RW.extract rfl rfl rfl ?_
    refine RW.assign rfl rfl ?_
    refine RW.assign rfl rfl ?_
    refine RW.nil (EX.seq (CW.seq ?_))
    -- mq: region
    refine CW.region ?_
    refine RW.move rfl rfl ?_
    refine RW.call (v := codV (n, b)) rfl ca13 rfl (fun w' _ => hq w') ?_
    refine RW.move rfl rfl ?_
    refine RW.extract rfl rfl rfl ?_
    refine RW.extract rfl rfl rfl ?_
    refine RW.assign rfl rfl ?_
    refine RW.assign rfl rfl ?_
    refine RW.nil (EX.seq (CW.seq ?_))
    -- mq: region
    refine CW.region ?_
    refine RW.move rfl rfl ?_
    refine RW.move rfl rfl ?_
    refine RW.eqlI rfl rfl rfl ?_
    refine RW.move rfl rfl ?_
    refine RW.guardT rfl rfl (decide_eq_true rfl) ?_
    refine RW.move rfl rfl ?_
    refine RW.guardT rfl rfl (decide_eq_true rfl) ?_
    refine RW.move rfl rfl ?_
    refine RW.guardT rfl rfl (decide_eq_true rfl) ?_
    refine RW.eqlB Tryd.underlying4 rfl rfl rfl ?_
    refine RW.pickB rfl rfl (decide_eq_true rfl) rfl ?_
    refine RW.move rfl rfl ?_
    refine RW.guardT rfl rfl (by simp) ?_
    refine RW.call rfl ca9 rfl (fun w' hw' => awake_c w' (hg.ext hw'.ext)) ?_
    refine RW.pickB rfl rfl (by simp) rfl ?_
    refine RW.assign rfl rfl ?_
    refine RW.nil (EX.seq (CW.ret ?_))
    refine EX.fin1 Tryd.results4 rfl (fun wz hw => ?_)
    -- mq: done
    exact ⟨rfl, hw.ext⟩
theorem escapes_c (w : World) (hg : GO w) (s : List UInt8) :
    Calls Tryd.prog 6 [.string (bs s)].toArray w (fun e w' => e = .returned (.bool true) ∧ Ext [] w w') := by
  refine calls (n := 47) Tryd.func6 rfl Tryd.ntmps6 rfl ?_
  refine CW.sub (H' := SH w [] []) ?_ (Sub.refl _) (fun x hx => SH.start' _ _ hx)
  refine CW.seq (CW.region ?_)
  refine RW.assign rfl rfl ?_
  refine RW.nil (EX.seq (CW.seq (CW.seq (CW.region ?_))))
  refine RW.move rfl rfl ?_
  refine RW.lenS Tryd.underlying9 rfl rfl ?_
  refine RW.gtr rfl rfl rfl ?_
  refine RW.nil (EX.seq ?_)
  -- mq: cond
  first | refine CW.condD rfl (fun h1 => ?_) (fun h1 => ?_) | refine CW.cond rfl (fun h1 => ?_) (fun h1 => ?_)
  · skip
    refine CW.seq (CW.region ?_)
    refine RW.call rfl ca9 rfl (fun w' hw' => awake_c w' (hg.ext hw'.ext)) ?_
    refine RW.assign rfl rfl ?_
    refine RW.nil (EX.seq (CW.ret (EX.seqR ?_)))
    refine EX.fin1 Tryd.results6 rfl (fun wz hw => ?_)
    -- mq: done
    exact ⟨rfl, hw.ext⟩
  · skip
    have hel := escF_len s
    have hem : ∀ d ∈ escF s, 32 < d.toNat ∧ d ≠ 59 := fun d hd => escF_mem hd
    have hun := unesc_esc s
    have he := fun w' => Escape_c w' s (by omega)
    have he2 := fun w' => Esc17_c w' s (by omega)
    have hu1 := fun w' (h : GO w') => Unescape_c w' h.e (escF s) (by omega)
    have hu2 := fun w' (h : GO w') => Unescape_c w' h.e s (by omega)
    have hu3 := fun w' => Unesc17_c w' s (by omega)
    rw [hun] at hu1
    generalize escF s = t at *
    generalize unescF s = u at *
    refine CW.skip (EX.seq (CW.seq (CW.region ?_)))
    refine RW.move rfl rfl ?_
    refine RW.call rfl ca14 rfl (fun w' _ => he w') ?_
    refine RW.assign rfl rfl ?_
    refine RW.nil (EX.seq (CW.seq (CW.seq (CW.region ?_))))
    refine RW.assign rfl rfl ?_
    refine RW.nil (EX.seq (CW.block ?_))
    -- mq: loop
    refine CW.loop (ι := Nat) (fun i => [(0, .string (bs s)), (3, .string (bs t)), (4, .int .i64 (i : Int))]) (fun _ => SH w [] []) (fun i => i ≤ t.length) (fun i => t.length - i) ?_ ?_
    · exact fun w' hw' => ⟨0, Nat.zero_le _, (by repeat (first | exact Sub.nil | refine Sub.cons (by rfl) ?_)), hw'⟩
    · intro i hi
      refine CW.seq (CW.seq (CW.region ?_))
      refine RW.move rfl rfl ?_
      refine RW.move rfl rfl ?_
      refine RW.lenS Tryd.underlying9 rfl rfl ?_
      refine RW.lss rfl rfl rfl ?_
      refine RW.nil (EX.seq ?_)
      -- mq: cond
      first | refine CW.condD rfl (fun hlt => ?_) (fun hlt => ?_) | refine CW.cond rfl (fun hlt => ?_) (fun hlt => ?_)
      · skip
        obtain ⟨c, hc⟩ : ∃ c, t[i]? = some c := ⟨t[i]'(by omega), List.getElem?_eq_getElem _⟩
        have hc8 := UInt8.toNat_lt c
        obtain ⟨m1, m2⟩ := hem c (List.mem_of_getElem? hc)
        refine CW.skip (EX.seq (CW.seq (CW.block (CW.seq (CW.region ?_)))))
        refine RW.move rfl rfl ?_
        refine RW.move rfl rfl ?_
        refine RW.ixStr (q := i) Tryd.underlying9 rfl rfl rfl (by omega) hc ?_
        refine RW.leq rfl rfl rfl ?_
        refine RW.move rfl rfl ?_
        refine RW.guardT rfl rfl (decide_eq_false (by omega)) ?_
        refine RW.move rfl rfl ?_
        refine RW.guardT rfl rfl (decide_eq_false (by omega)) ?_
        refine RW.move rfl rfl ?_
        refine RW.guardT rfl rfl (decide_eq_false (by omega)) ?_
        refine RW.ixStr (q := i) Tryd.underlying9 rfl rfl rfl (by omega) hc ?_
        refine RW.guardT rfl rfl (decide_eq_false (by omega)) ?_
        refine RW.eqlI rfl rfl rfl ?_
        refine RW.pickC rfl rfl (decide_eq_false (by omega)) rfl ?_
        refine RW.nil (EX.seq ?_)
        -- mq: cond
        refine CW.condF rfl ((decide_eq_false (fun h => m2 ((u8_lit (k := 59) (by decide)).1 h)))) ?_
        refine CW.skip (EX.bkN (EX.seq (CW.region ?_)))
        refine RW.move rfl rfl ?_
        refine RW.add rfl rfl rfl (wrap64 (by omega) (by omega)) ?_
        refine RW.assign rfl rfl ?_
        refine RW.nil ?_
        -- mq: loopend
        exact EX.lpN (i + 1) (by omega) (by omega) (by repeat (first | exact Sub.nil | refine Sub.cons (by rfl) ?_)) (fun w' hw' => hw')
      · skip
        refine CW.exit (EX.seqE (EX.lpE (EX.bkE (EX.seq (CW.seq (CW.region ?_))))))
        refine RW.move rfl rfl ?_
        refine RW.move rfl rfl ?_
        refine RW.call rfl ca15 rfl (fun w' _ => he2 w') ?_
        refine RW.eqlS rfl rfl rfl ?_
        refine RW.move rfl rfl ?_
        refine RW.guardT rfl rfl (decide_eq_true rfl) ?_
        refine RW.move rfl rfl ?_
        refine RW.guardT rfl rfl (decide_eq_true rfl) ?_
        refine RW.call rfl ca16 rfl (fun w' hw' => hu1 w' (hg.ext hw'.ext)) ?_
        refine RW.guardT rfl rfl (decide_eq_true rfl) ?_
        refine RW.move rfl rfl ?_
        refine RW.guardT rfl rfl (decide_eq_true rfl) ?_
        refine RW.eqlS rfl rfl rfl ?_
        refine RW.pickB rfl rfl (decide_eq_true rfl) rfl ?_
        refine RW.move rfl rfl ?_
        refine RW.guardT rfl rfl (decide_eq_true rfl) ?_
        refine RW.move rfl rfl ?_
        refine RW.guardT rfl rfl (decide_eq_true rfl) ?_
        refine RW.call rfl ca16 rfl (fun w' hw' => hu2 w' (hg.ext hw'.ext)) ?_
        refine RW.guardT rfl rfl (decide_eq_true rfl) ?_
        refine RW.move rfl rfl ?_
        refine RW.guardT rfl rfl (decide_eq_true rfl) ?_
        refine RW.call rfl ca17 rfl (fun w' _ => hu3 w') ?_
        refine RW.guardT rfl rfl (decide_eq_true rfl) ?_
        refine RW.eqlS rfl rfl rfl ?_
        refine RW.pickB rfl rfl (decide_eq_true rfl) rfl ?_
        refine RW.move rfl rfl ?_
        refine RW.guardT rfl rfl (decide_eq_true rfl) ?_
        refine RW.call rfl ca9 rfl (fun w' hw' => awake_c w' (hg.ext hw'.ext)) ?_
        refine RW.pickB rfl rfl (decide_eq_true rfl) rfl ?_
        refine RW.assign rfl rfl ?_
        refine RW.nil (EX.seq (CW.ret ?_))
        refine EX.fin1 Tryd.results6 rfl (fun wz hw => ?_)
        -- mq: done
        exact ⟨rfl, hw.ext⟩
theorem abc_cut : ∀ k, k < 3 → (([65, 66, 67] : List UInt8).take (k + 1)).drop k = [UInt8.ofNat (65 + k)] := by decide
theorem short_law (w : World) (hg : GO w) (s more : List UInt8) (k : UInt8) :
    Calls Tryd.prog 5 [.string (bs s), .string (bs more), .int .u8 (k.toNat : Int)].toArray w (fun e w' => e = .returned (.bool true) ∧ Ext [] w w') := by
  have hk8 := UInt8.toNat_lt k
  refine calls (n := 52) Tryd.func5 rfl Tryd.ntmps5 rfl ?_
  refine CW.sub (H' := SH w [] []) ?_ (Sub.refl _) (fun x hx => SH.start' _ _ hx)
  refine CW.seq (CW.region ?_)
  refine RW.assign rfl rfl ?_
  refine RW.nil (EX.seq (CW.seq (CW.seq (CW.region ?_))))
  refine RW.move rfl rfl ?_
  refine RW.lenS Tryd.underlying9 rfl rfl ?_
  refine RW.gtr rfl rfl rfl ?_
  refine RW.move rfl rfl ?_
  -- mq: guard slot 11
  refine RW.casesB 11 rfl (fun h1 => ?_) (fun h1 => ?_)
  · skip
    have h1p := of_decide_eq_true h1
    refine RW.guardF rfl rfl rfl h1 ?_
    refine RW.guardF rfl rfl rfl h1 ?_
    refine RW.guardF rfl rfl rfl h1 ?_
    refine RW.pickB rfl rfl h1 rfl ?_
    refine RW.nil (EX.seq ?_)
    -- mq: cond
    refine CW.condT rfl (rfl) ?_
    refine CW.seq (CW.region ?_)
    refine RW.call rfl ca9 rfl (fun w' hw' => awake_c w' (hg.ext hw'.ext)) ?_
    refine RW.assign rfl rfl ?_
    refine RW.nil (EX.seq (CW.ret (EX.seqR ?_)))
    refine EX.fin1 Tryd.results5 rfl (fun wz hw => ?_)
    -- mq: done
    exact ⟨rfl, hw.ext⟩
  · skip
    have h1p := of_decide_eq_false h1
    refine RW.guardT rfl rfl h1 ?_
    refine RW.move rfl rfl ?_
    refine RW.guardT rfl rfl h1 ?_
    refine RW.lenS Tryd.underlying9 rfl rfl ?_
    refine RW.guardT rfl rfl h1 ?_
    refine RW.gtr rfl rfl rfl ?_
    refine RW.pickC rfl rfl h1 rfl ?_
    refine RW.nil (EX.seq ?_)
    -- mq: cond
    first | refine CW.condD rfl (fun h2 => ?_) (fun h2 => ?_) | refine CW.cond rfl (fun h2 => ?_) (fun h2 => ?_)
    · skip
      refine CW.seq (CW.region ?_)
      refine RW.call rfl ca9 rfl (fun w' hw' => awake_c w' (hg.ext hw'.ext)) ?_
      refine RW.assign rfl rfl ?_
      refine RW.nil (EX.seq (CW.ret (EX.seqR ?_)))
      refine EX.fin1 Tryd.results5 rfl (fun wz hw => ?_)
      -- mq: done
      exact ⟨rfl, hw.ext⟩
    · skip
      have hr := fun w' (h : GO w') => Read_c w' h s (by omega)
      have hsh := readO_short s
      generalize readO s = x at hr hsh
      refine CW.skip (EX.seq (CW.seq (CW.seq (CW.region ?_))))
      refine RW.move rfl rfl ?_
      refine RW.call rfl ca10 rfl (fun w' hw' => hr w' (hg.ext hw'.ext)) ?_
      refine RW.fieldS (v := .string (bs x.text)) Tryd.underlying24 rfl Tryd.underlying9 rfl rfl rfl rfl rfl ?_
      refine RW.lenS Tryd.underlying9 rfl rfl ?_
      refine RW.gtr rfl rfl rfl ?_
      refine RW.nil (EX.seq ?_)
      -- mq: cond
      refine CW.condF rfl ((decide_eq_false (by omega))) ?_
      obtain ⟨m, hm, hm3⟩ : ∃ m : Nat, (k.toNat : Int) % 3 = (m : Int) ∧ m < 3 := ⟨k.toNat % 3, by omega, by omega⟩
      have hcut := abc_cut m hm3
      have hcl : ((([65, 66, 67] : List UInt8).take (m + 1)).drop m).length = 1 := by rw [hcut]; rfl
      have hal : ([65, 66, 67] : List UInt8).length = 3 := rfl
      have hmk := mark_o (c := UInt8.ofNat (65 + m)) (by rcases (show m = 0 ∨ m = 1 ∨ m = 2 by omega) with rfl | rfl | rfl <;> decide) more
      have hkd : ((UInt8.ofNat (65 + m)).toNat : Int) - 64 = 1 + (m : Int) := by rw [UInt8.toNat_ofNat']; omega
      rw [hkd] at hmk
      have hra := fun w' (h : GO w') => Read_c w' h ([49, 51, 51, 59, UInt8.ofNat (65 + m), 59] ++ more) (by rw [List.length_append]; simp; omega)
      have hrb := fun w' (h : GO w') => Read_c w' h [49, 51, 51, 59, UInt8.ofNat (65 + m)] (by show 5 ≤ 1000000; decide)
      rw [hmk.1, hmk.2] at hra
      rw [hmk.2] at hrb
      have ea : [49, 51, 51, 59] ++ (([65, 66, 67] : List UInt8).take (m + 1)).drop m ++ [59] ++ more = [49, 51, 51, 59, UInt8.ofNat (65 + m), 59] ++ more := by rw [hcut]; rfl
      have eb : [49, 51, 51, 59] ++ (([65, 66, 67] : List UInt8).take (m + 1)).drop m = [49, 51, 51, 59, UInt8.ofNat (65 + m)] := by rw [hcut]; rfl
      rw [← ea] at hra
      rw [← eb] at hrb
      refine CW.skip (EX.seq (CW.seq ?_))
      -- mq: region
      refine CW.region ?_
      refine RW.move rfl rfl ?_
      refine RW.convI (r := (k.toNat : Int)) rfl rfl Tryd.underlying5 Tryd.underlying3 (wrap64 (by omega) (by omega)) ?_
      refine RW.rem (r := (m : Int)) rfl rfl rfl (by decide) (by rw [Int.tmod_eq_emod_of_nonneg (by omega)]; exact hm) ?_
      refine RW.move rfl rfl ?_
      refine RW.convI (r := (k.toNat : Int)) rfl rfl Tryd.underlying5 Tryd.underlying3 (wrap64 (by omega) (by omega)) ?_
      refine RW.rem (r := (m : Int)) rfl rfl rfl (by decide) (by rw [Int.tmod_eq_emod_of_nonneg (by omega)]; exact hm) ?_
      refine RW.add rfl rfl rfl (wrap64 (by omega) (by omega)) ?_
      refine RW.sliceStrLH (s := [65, 66, 67]) m (m + 1) Tryd.underlying9 rfl rfl rfl rfl rfl (by omega) (by omega) (by rw [hal]; omega) ?_
      refine RW.catS rfl rfl rfl (by first | omega | (simp only [List.length_append, List.length_cons, List.length_nil]; omega)) ?_
      refine RW.assign rfl rfl ?_
      refine RW.nil (EX.seq (CW.seq ?_))
      -- mq: region
      refine CW.region ?_
      refine RW.move rfl rfl ?_
      refine RW.catS rfl rfl rfl (by first | omega | (simp only [List.length_append, List.length_cons, List.length_nil]; omega)) ?_
      refine RW.move rfl rfl ?_
      refine RW.catS rfl rfl rfl (by first | omega | (simp only [List.length_append, List.length_cons, List.length_nil]; omega)) ?_
      refine RW.call rfl ca10 rfl (fun w' hw' => hra w' (hg.ext hw'.ext)) ?_
      refine RW.move rfl rfl ?_
      refine RW.call rfl ca10 rfl (fun w' hw' => hrb w' (hg.ext hw'.ext)) ?_
      refine RW.eqlSt eq24 rfl rfl rfl (by kernel_rfl) (heqG (kindS (1 + (m : Int))) (kindS (1 + (m : Int)))) ?_
      refine RW.move rfl rfl ?_
      refine RW.guardT rfl rfl (decide_eq_true rfl) ?_
      refine RW.move rfl rfl ?_
      refine RW.guardT rfl rfl (decide_eq_true rfl) ?_
      refine RW.call rfl ca10 rfl (fun w' hw' => hrb w' (hg.ext hw'.ext)) ?_
      refine RW.guardT rfl rfl (decide_eq_true rfl) ?_
      refine RW.fieldS (v := .int .i64 (1 + (m : Int))) Tryd.underlying24 rfl Tryd.underlying3 rfl rfl rfl rfl rfl ?_
      refine RW.guardT rfl rfl (decide_eq_true rfl) ?_
      refine RW.move rfl rfl ?_
      refine RW.guardT rfl rfl (decide_eq_true rfl) ?_
      refine RW.convI (r := (k.toNat : Int)) rfl rfl Tryd.underlying5 Tryd.underlying3 (wrap64 (by omega) (by omega)) ?_
      refine RW.guardT rfl rfl (decide_eq_true rfl) ?_
      refine RW.rem (r := (m : Int)) rfl rfl rfl (by decide) (by rw [Int.tmod_eq_emod_of_nonneg (by omega)]; exact hm) ?_
      refine RW.guardT rfl rfl (decide_eq_true rfl) ?_
      refine RW.add rfl rfl rfl (wrap64 (by omega) (by omega)) ?_
      refine RW.guardT rfl rfl (decide_eq_true rfl) ?_
      refine RW.eqlI rfl rfl rfl ?_
      refine RW.pickB rfl rfl (decide_eq_true rfl) rfl ?_
      refine RW.move rfl rfl ?_
      refine RW.guardT rfl rfl (decide_eq_true rfl) ?_
      refine RW.call rfl ca9 rfl (fun w' hw' => awake_c w' (hg.ext hw'.ext)) ?_
      refine RW.pickB rfl rfl (decide_eq_true rfl) rfl ?_
      refine RW.assign rfl rfl ?_
      refine RW.nil (EX.seq (CW.ret ?_))
      refine EX.fin1 Tryd.results5 rfl (fun wz hw => ?_)
      -- mq: done
      exact ⟨rfl, hw.ext⟩
theorem writes_c (w : World) (hg : GO w) (x : SgV) (hx : x.Wf) :
    Calls Tryd.prog 7 [.agg x.cells.toArray].toArray w (fun e w' => e = .returned (.bool true) ∧ Ext [] w w') := by
  refine calls (n := 16) Tryd.func7 rfl Tryd.ntmps7 rfl ?_
  refine CW.sub (H' := SH w [] []) ?_ (Sub.refl _) (fun x hx => SH.start' _ _ hx)
  refine CW.seq (CW.region ?_)
  refine RW.boxA rfl rfl (fun g1 hg1 hf1 => ?_)
  refine RW.assign rfl rfl ?_
  refine RW.nil (EX.seq (CW.seq (CW.seq ?_)))
  -- mq: region
  refine CW.region ?_
  refine RW.fieldB fl24x3 rfl rfl ?_
  refine RW.loadB1 sc9 rfl rfl (by first | exact Has.head | exact Has.tail Has.head | exact Has.tail (Has.tail Has.head) | exact Has.tail (Has.tail (Has.tail Has.head)) | exact Has.tail (Has.tail (Has.tail (Has.tail Has.head))) | exact Has.tail (Has.tail (Has.tail (Has.tail (Has.tail Has.head)))) | exact Has.tail (Has.tail (Has.tail (Has.tail (Has.tail (Has.tail Has.head)))))) rfl ?_
  refine RW.lenS Tryd.underlying9 rfl rfl ?_
  refine RW.gtr rfl rfl rfl ?_
  refine RW.nil (EX.seq ?_)
  -- mq: cond
  first | refine CW.condD rfl (fun h1 => ?_) (fun h1 => ?_) | refine CW.cond rfl (fun h1 => ?_) (fun h1 => ?_)
  · skip
    refine CW.seq (CW.region ?_)
    refine RW.call rfl ca9 rfl (fun w' hw' => awake_c w' (hg.ext hw'.ext)) ?_
    refine RW.assign rfl rfl ?_
    refine RW.nil (EX.seq (CW.ret (EX.seqR ?_)))
    refine EX.fin1 Tryd.results7 rfl (fun wz hw => ?_)
    -- mq: done
    exact ⟨rfl, hw.ext⟩
  · skip
    have hr := fun w' (h : GO w') => Write_c w' h x hx (by omega)
    have hq := fun w' => Write17_c w' x hx (by omega)
    generalize writeO x = t at hr hq
    refine CW.skip (EX.seq (CW.seq ?_))
    -- mq: region
    refine CW.drawU [0, 2] 3 [[(1, false, []), (3, false, [4, 5]), (6, false, [7, 8])]] (Ch [blk g1 x.cells 24]) mixed (by kernel_rfl) (fun _ hw => hw.drew) (fun _ h => (by first | trivial | exact h | exact h.ch | exact (h.rem Rem.head).ch | exact ((h.rem Rem.head).rem Rem.head).ch | exact (((h.rem Rem.head).rem Rem.head).rem Rem.head).ch)) ?_
    refine QuP.cons rfl (fun wq hq => (RW.loadA ag24 rfl rfl rfl (fun w1 e1 j u hj => by subst e1; exact hq.blk_at (sz := 4) (by first | exact Has.head | exact Has.tail Has.head | exact Has.tail (Has.tail Has.head) | exact Has.tail (Has.tail (Has.tail Has.head)) | exact Has.tail (Has.tail (Has.tail (Has.tail Has.head))) | exact Has.tail (Has.tail (Has.tail (Has.tail (Has.tail Has.head)))) | exact Has.tail (Has.tail (Has.tail (Has.tail (Has.tail (Has.tail Has.head)))))) rfl j u hj) RW.jn)) ?_
    refine QuP.cons rfl (fun wq hq => (RW.loadA ag24 rfl rfl rfl (fun w1 e1 j u hj => by subst e1; exact hq.blk_at (sz := 4) (by first | exact Has.head | exact Has.tail Has.head | exact Has.tail (Has.tail Has.head) | exact Has.tail (Has.tail (Has.tail Has.head)) | exact Has.tail (Has.tail (Has.tail (Has.tail Has.head))) | exact Has.tail (Has.tail (Has.tail (Has.tail (Has.tail Has.head)))) | exact Has.tail (Has.tail (Has.tail (Has.tail (Has.tail (Has.tail Has.head)))))) rfl j u hj) RW.jn)) ?_
    refine QuP.nil ?_
    refine UW.step [_] rfl (List.forall_mem_cons.2 ⟨?_, by simp⟩)
    refine RW.call rfl ca18 rfl (fun w' hw' => hr w' (hg.ext hw'.ext)) ?_
    refine RW.st (fun _ => True) (fun _ h => .inr (by first | trivial | exact h | exact h.ch | exact (h.rem Rem.head).ch | exact ((h.rem Rem.head).rem Rem.head).ch | exact (((h.rem Rem.head).rem Rem.head).rem Rem.head).ch)) (fun _ h => trivial) ?_
    refine QuP.nil ?_
    refine UW.step [_] rfl (List.forall_mem_cons.2 ⟨?_, by simp⟩)
    refine RW.call rfl ca19 rfl (fun w' _ => hq w') ?_
    refine RW.st (fun _ => True) (fun _ h => .inr ⟨.inr (by first | trivial | exact h | exact h.ch | exact (h.rem Rem.head).ch | exact ((h.rem Rem.head).rem Rem.head).ch | exact (((h.rem Rem.head).rem Rem.head).rem Rem.head).ch), trivial⟩) (fun _ h => trivial) ?_
    refine QuP.cons rfl (fun wq hq => (RW.eqlS rfl rfl rfl RW.jn)) ?_
    refine QuP.cons rfl (fun wq hq => (RW.move rfl rfl RW.jn)) ?_
    refine QuP.nil ?_
    refine UW.step [_] rfl (List.forall_mem_cons.2 ⟨?_, by simp⟩)
    refine RW.guardT rfl rfl ((decide_eq_true rfl)) ?_
    refine RW.call rfl ca9 rfl (fun w' hw' => awake_c w' (hg.ext hw'.ext)) ?_
    refine RW.st (fun _ => True) (fun _ h => .inr ⟨.inr ⟨.inr (by first | trivial | exact h | exact h.ch | exact (h.rem Rem.head).ch | exact ((h.rem Rem.head).rem Rem.head).ch | exact (((h.rem Rem.head).rem Rem.head).rem Rem.head).ch), trivial⟩, trivial⟩) (fun _ h => trivial) ?_
    refine QuP.cons rfl (fun wq hq => (RW.pickB rfl rfl (decide_eq_true rfl) rfl RW.jn)) ?_
    refine QuP.cons rfl (fun wq hq => (RW.assign rfl rfl RW.jn)) ?_
    refine QuP.nil ?_
    refine UW.nil (EX.seq (CW.ret ?_))
    refine EX.fin1 Tryd.results7 rfl (fun wz hw => ?_)
    -- mq: done
    exact ⟨rfl, hw.ext⟩
end Go.Proofs.YtemcblinkicblaaDoor.Mq
