/- attributes: the walks of AttrTurns, AttrKeeps -/
import Derived.Test.YtojfodeienchfaaDoorAtI
namespace Go.Proofs.YtojfodeienchfaaDoor.Mq
open Go Go.RowKit Go.Proofs

theorem cleanF_cl (gs : List (List Int)) : Cl (cleanF gs) := by
  refine ⟨cleanF_length gs, fun g hg => ⟨(cleanF_mem gs g hg).1, (cleanF_mem gs g hg).2, fun x hx => ?_⟩⟩
  have hc : ∀ g x, x ∈ cleanG g → -1 ≤ x ∧ x ≤ 65535 := by
    intro g x hx
    unfold cleanG at hx
    split at hx
    · rw [List.mem_singleton.1 hx]; omega
    · obtain ⟨y, _, rfl⟩ := List.mem_map.1 hx
      unfold cleanN; omega
  unfold cleanF at hg
  split at hg
  · rw [List.mem_singleton.1 hg] at hx
    rw [List.mem_singleton.1 hx]; omega
  · obtain ⟨y, _, rfl⟩ := List.mem_map.1 hg
    exact hc _ _ hx
theorem heqA (a b : AtV) : eqv [.int .i64 a.fk, .int .i64 a.fn, .int .i64 a.bk, .int .i64 a.bn, .int .i64 a.fl] [.int .i64 b.fk, .int .i64 b.fn, .int .i64 b.bk, .int .i64 b.bn, .int .i64 b.fl] = decide (a = b) := by
  obtain ⟨a1, a2, a3, a4, a5⟩ := a
  obtain ⟨b1, b2, b3, b4, b5⟩ := b
  simp only [eqv, veq, AtV.mk.injEq, Bool.and_true]
  by_cases h1 : a1 = b1 <;> by_cases h2 : a2 = b2 <;> by_cases h3 : a3 = b3 <;> by_cases h4 : a4 = b4 <;> by_cases h5 : a5 = b5 <;> simp [h1, h2, h3, h4, h5]
theorem flOk_of {a : AtV} (h : rightF a = true) : FlOk a := by
  simp only [rightF, Bool.and_eq_true, decide_eq_true_eq] at h
  exact ⟨h.2.2.1, h.2.2.2.1⟩
theorem attrTurns_c (w : World) (hg : Gl w) (a : AtV) (F : Nat → Prop) (A : Option Addr) (n c : Nat) (gs : List (List Int)) (hr : RdG w F A n c gs) :
    Calls Tryd.prog 4 [atV a, .slice A n c].toArray w (fun e w' => e = .returned (.bool true) ∧ Ext [] w w') := by
  have hl := hr.len
  refine calls (n := 26) Tryd.func4 rfl Tryd.ntmps4 rfl ?_
  refine CW.sub (H' := SH w [] []) ?_ (Sub.refl _) (fun x hx => SH.start' _ _ hx)
  refine CW.seq (CW.region ?_)
  refine RW.boxA rfl rfl (fun g2 hg2 hf2 => ?_)
  refine RW.assign rfl rfl ?_
  refine RW.nil (EX.seq (CW.seq (CW.seq ?_)))
  -- mq: region
  refine CW.region ?_
  refine RW.move rfl rfl ?_
  refine RW.call rfl ca11 rfl (fun w' hw' => Great_c w' F A n c gs (hr.ext hw'.ext (by simp))) ?_
  refine RW.move rfl rfl ?_
  -- mq: guard slot 8
  refine RW.casesB 8 rfl (fun hG => ?_) (fun hG => ?_)
  · skip
    refine RW.guardF rfl rfl rfl hG ?_
    refine RW.guardF rfl rfl rfl hG ?_
    refine RW.guardF rfl rfl rfl hG ?_
    refine RW.pickB rfl rfl hG rfl ?_
    refine RW.nil (EX.seq ?_)
    -- mq: cond
    refine CW.condT rfl (rfl) ?_
    refine CW.seq (CW.region ?_)
    refine RW.call rfl ca10 rfl (fun w' hw' => awake_c w' (hg.ext hw'.ext)) ?_
    refine RW.assign rfl rfl ?_
    refine RW.nil (EX.seq (CW.ret (EX.seqR ?_)))
    refine EX.fin1 Tryd.results4 rfl (fun wz hw => ?_)
    -- mq: done
    exact ⟨rfl, hw.ext⟩
  · skip
    obtain ⟨hb1, hb2⟩ := greatB_false hG
    refine RW.guardT rfl rfl hG ?_
    refine RW.loadBA ag25 rfl rfl (by first | exact Has.head | exact Has.tail Has.head | exact Has.tail (Has.tail Has.head) | exact Has.tail (Has.tail (Has.tail Has.head)) | exact Has.tail (Has.tail (Has.tail (Has.tail Has.head))) | exact Has.tail (Has.tail (Has.tail (Has.tail (Has.tail Has.head)))) | exact Has.tail (Has.tail (Has.tail (Has.tail (Has.tail (Has.tail Has.head)))))) rfl rfl ?_
    refine RW.guardT rfl rfl hG ?_
    refine RW.call rfl ca9 rfl (fun w' hw' => refRight_c w' a) ?_
    refine RW.guardT rfl rfl hG ?_
    refine RW.not_ rfl rfl ?_
    refine RW.pickC rfl rfl hG rfl ?_
    refine RW.nil (EX.seq ?_)
    -- mq: cond
    first | refine CW.condD rfl (fun hR => ?_) (fun hR => ?_) | refine CW.cond rfl (fun hR => ?_) (fun hR => ?_)
    · skip
      refine CW.seq (CW.region ?_)
      refine RW.call rfl ca10 rfl (fun w' hw' => awake_c w' (hg.ext hw'.ext)) ?_
      refine RW.assign rfl rfl ?_
      refine RW.nil (EX.seq (CW.ret (EX.seqR ?_)))
      refine EX.fin1 Tryd.results4 rfl (fun wz hw => ?_)
      -- mq: done
      exact ⟨rfl, hw.ext⟩
    · skip
      have hri : rightF a = true := by simpa using hR
      refine CW.skip (EX.seq (CW.seq ?_))
      -- mq: region
      refine CW.region ?_
      refine RW.move rfl rfl ?_
      -- mq: at
      refine RW.callA (R := fun w0 => IsG (cleanF gs) w0) rfl ca12 rfl (fun w' hw' => (refClean_c w' F A n c gs (hr.ext hw'.ext (by simp)) (by omega) (fun g hg => by have := hb2 g hg; omega)).mono (fun e w'' h => h.toA)) ?_
      rintro w0 w1 v hw0 he01 hw1 hlt ⟨A1, n1, c1, rfl, hrd1⟩
      have hcv := hw0.cov
      have hx1 : Ext [] w w1 := hw0.ext.trans0 he01
      have hcl := cleanF_cl gs
      refine RW.assign rfl rfl ?_
      refine RW.nil (EX.seq (CW.seq ?_))
      -- mq: region
      refine CW.drawU [0, 1, 3, 4] 3 [[(2, false, []), (5, false, [6, 7]), (8, false, [9, 10])]] (Ch [blk g2 [.int .i64 a.fk, .int .i64 a.fn, .int .i64 a.bk, .int .i64 a.bn, .int .i64 a.fl] 25]) mixed (by kernel_rfl) (fun _ hw => hw.drew) (fun _ h => (by first | trivial | exact h | exact h.ch | exact (h.rem Rem.head).ch | exact ((h.rem Rem.head).rem Rem.head).ch | exact (((h.rem Rem.head).rem Rem.head).rem Rem.head).ch)) ?_
      refine QuP.cons rfl (fun wq hq => (RW.loadA ag25 rfl rfl rfl (fun w1 e1 j u hj => by subst e1; exact hq.blk_at (sz := 5) (by first | exact Has.head | exact Has.tail Has.head | exact Has.tail (Has.tail Has.head) | exact Has.tail (Has.tail (Has.tail Has.head)) | exact Has.tail (Has.tail (Has.tail (Has.tail Has.head))) | exact Has.tail (Has.tail (Has.tail (Has.tail (Has.tail Has.head)))) | exact Has.tail (Has.tail (Has.tail (Has.tail (Has.tail (Has.tail Has.head)))))) rfl j u hj) RW.jn)) ?_
      refine QuP.cons rfl (fun wq hq => (RW.move rfl rfl RW.jn)) ?_
      refine QuP.cons rfl (fun wq hq => (RW.loadA ag25 rfl rfl rfl (fun w1 e1 j u hj => by subst e1; exact hq.blk_at (sz := 5) (by first | exact Has.head | exact Has.tail Has.head | exact Has.tail (Has.tail Has.head) | exact Has.tail (Has.tail (Has.tail Has.head)) | exact Has.tail (Has.tail (Has.tail (Has.tail Has.head))) | exact Has.tail (Has.tail (Has.tail (Has.tail (Has.tail Has.head)))) | exact Has.tail (Has.tail (Has.tail (Has.tail (Has.tail (Has.tail Has.head)))))) rfl j u hj) RW.jn)) ?_
      refine QuP.cons rfl (fun wq hq => (RW.move rfl rfl RW.jn)) ?_
      refine QuP.nil ?_
      refine UW.step [_] rfl (List.forall_mem_cons.2 ⟨?_, by simp⟩)
      refine RW.call rfl ca13 rfl (fun w' hw' => turn_c w' _ _ _ _ (cleanF gs) (hrd1.ext hw'.ext (fun k hk hk2 => by have := hlt k hk2; omega)) hcl a (flOk_of hri)) ?_
      refine RW.st (fun _ => True) (fun _ h => .inr (by first | trivial | exact h | exact h.ch | exact (h.rem Rem.head).ch | exact ((h.rem Rem.head).rem Rem.head).ch | exact (((h.rem Rem.head).rem Rem.head).rem Rem.head).ch)) (fun _ h => trivial) ?_
      refine QuP.nil ?_
      refine UW.step [_] rfl (List.forall_mem_cons.2 ⟨?_, by simp⟩)
      refine RW.call rfl ca14 rfl (fun w' hw' => refTurn_c w' _ _ _ _ (cleanF gs) (hrd1.ext hw'.ext (fun k hk hk2 => by have := hlt k hk2; omega)) hcl a (flOk_of hri)) ?_
      refine RW.st (fun _ => True) (fun _ h => .inr ⟨.inr (by first | trivial | exact h | exact h.ch | exact (h.rem Rem.head).ch | exact ((h.rem Rem.head).rem Rem.head).ch | exact (((h.rem Rem.head).rem Rem.head).rem Rem.head).ch), trivial⟩) (fun _ h => trivial) ?_
      refine QuP.cons rfl (fun wq hq => (RW.eqlSt eq25 rfl rfl rfl (by kernel_rfl) ((heqA _ _).trans (decide_eq_true rfl)) RW.jn)) ?_
      refine QuP.cons rfl (fun wq hq => (RW.move rfl rfl RW.jn)) ?_
      refine QuP.nil ?_
      refine UW.step [_] rfl (List.forall_mem_cons.2 ⟨?_, by simp⟩)
      refine RW.guardT rfl rfl (rfl) ?_
      refine RW.call rfl ca10 rfl (fun w' hw' => awake_c w' (hg.ext (hw'.unbase hx1 hcv).ext)) ?_
      refine RW.st (fun _ => True) (fun _ h => .inr ⟨.inr ⟨.inr (by first | trivial | exact h | exact h.ch | exact (h.rem Rem.head).ch | exact ((h.rem Rem.head).rem Rem.head).ch | exact (((h.rem Rem.head).rem Rem.head).rem Rem.head).ch), trivial⟩, trivial⟩) (fun _ h => trivial) ?_
      refine QuP.cons rfl (fun wq hq => (RW.pickB rfl rfl rfl rfl RW.jn)) ?_
      refine QuP.cons rfl (fun wq hq => (RW.assign rfl rfl RW.jn)) ?_
      refine QuP.nil ?_
      refine UW.nil (EX.seq (CW.ret ?_))
      refine EX.fin1 Tryd.results4 rfl (fun wz hw => ?_)
      -- mq: done
      exact ⟨rfl, (hw.unbase hx1 hcv).ext⟩
theorem attrKeeps_c (w : World) (hg : Gl w) (a : AtV) (h64 : -9223372036854775808 ≤ a.fl ∧ a.fl ≤ 9223372036854775807) (F : Nat → Prop) (A : Option Addr) (n c : Nat) (gs : List (List Int)) (hr : RdG w F A n c gs) :
    Calls Tryd.prog 6 [atV a, .slice A n c].toArray w (fun e w' => e = .returned (.bool true) ∧ Ext [] w w') := by
  have hl := hr.len
  refine calls (n := 21) Tryd.func6 rfl Tryd.ntmps6 rfl ?_
  refine CW.sub (H' := SH w [] []) ?_ (Sub.refl _) (fun x hx => SH.start' _ _ hx)
  refine CW.seq (CW.region ?_)
  refine RW.boxA rfl rfl (fun g2 hg2 hf2 => ?_)
  refine RW.assign rfl rfl ?_
  refine RW.nil (EX.seq (CW.seq (CW.seq ?_)))
  -- mq: region
  refine CW.region ?_
  refine RW.move rfl rfl ?_
  refine RW.call rfl ca11 rfl (fun w' hw' => Great_c w' F A n c gs (hr.ext hw'.ext (by simp))) ?_
  refine RW.move rfl rfl ?_
  -- mq: guard slot 7
  refine RW.casesB 7 rfl (fun hG => ?_) (fun hG => ?_)
  · skip
    refine RW.guardF rfl rfl rfl hG ?_
    refine RW.guardF rfl rfl rfl hG ?_
    refine RW.guardF rfl rfl rfl hG ?_
    refine RW.pickB rfl rfl hG rfl ?_
    refine RW.nil (EX.seq ?_)
    -- mq: cond
    refine CW.condT rfl (rfl) ?_
    refine CW.seq (CW.region ?_)
    refine RW.call rfl ca10 rfl (fun w' hw' => awake_c w' (hg.ext hw'.ext)) ?_
    refine RW.assign rfl rfl ?_
    refine RW.nil (EX.seq (CW.ret (EX.seqR ?_)))
    refine EX.fin1 Tryd.results6 rfl (fun wz hw => ?_)
    -- mq: done
    exact ⟨rfl, hw.ext⟩
  · skip
    obtain ⟨hb1, hb2⟩ := greatB_false hG
    refine RW.guardT rfl rfl hG ?_
    refine RW.loadBA ag25 rfl rfl (by first | exact Has.head | exact Has.tail Has.head | exact Has.tail (Has.tail Has.head) | exact Has.tail (Has.tail (Has.tail Has.head)) | exact Has.tail (Has.tail (Has.tail (Has.tail Has.head))) | exact Has.tail (Has.tail (Has.tail (Has.tail (Has.tail Has.head)))) | exact Has.tail (Has.tail (Has.tail (Has.tail (Has.tail (Has.tail Has.head)))))) rfl rfl ?_
    refine RW.guardT rfl rfl hG ?_
    refine RW.call rfl ca8 rfl (fun w' hw' => right_c w' a h64) ?_
    refine RW.guardT rfl rfl hG ?_
    refine RW.not_ rfl rfl ?_
    refine RW.pickC rfl rfl hG rfl ?_
    refine RW.nil (EX.seq ?_)
    -- mq: cond
    first | refine CW.condD rfl (fun hR => ?_) (fun hR => ?_) | refine CW.cond rfl (fun hR => ?_) (fun hR => ?_)
    · skip
      refine CW.seq (CW.region ?_)
      refine RW.call rfl ca10 rfl (fun w' hw' => awake_c w' (hg.ext hw'.ext)) ?_
      refine RW.assign rfl rfl ?_
      refine RW.nil (EX.seq (CW.ret (EX.seqR ?_)))
      refine EX.fin1 Tryd.results6 rfl (fun wz hw => ?_)
      -- mq: done
      exact ⟨rfl, hw.ext⟩
    · skip
      have hri : rightF a = true := by simpa using hR
      have hri2 := turnF_right (gs := cleanF gs) _ 0 a (Nat.le_refl _) hri
      have hfl := flOk_of hri2
      have hcl := cleanF_cl gs
      refine CW.skip (EX.seq (CW.seq ?_))
      -- mq: region
      refine CW.drawU [0, 1] 4 [[(2, false, []), (3, false, []), (4, false, [5]), (6, false, [7, 8])]] (Ch [blk g2 [.int .i64 a.fk, .int .i64 a.fn, .int .i64 a.bk, .int .i64 a.bn, .int .i64 a.fl] 25]) mixed (by kernel_rfl) (fun _ hw => hw.drew) (fun _ h => (by first | trivial | exact h | exact h.ch | exact (h.rem Rem.head).ch | exact ((h.rem Rem.head).rem Rem.head).ch | exact (((h.rem Rem.head).rem Rem.head).rem Rem.head).ch)) ?_
      refine QuP.cons rfl (fun wq hq => (RW.loadA ag25 rfl rfl rfl (fun w1 e1 j u hj => by subst e1; exact hq.blk_at (sz := 5) (by first | exact Has.head | exact Has.tail Has.head | exact Has.tail (Has.tail Has.head) | exact Has.tail (Has.tail (Has.tail Has.head)) | exact Has.tail (Has.tail (Has.tail (Has.tail Has.head))) | exact Has.tail (Has.tail (Has.tail (Has.tail (Has.tail Has.head)))) | exact Has.tail (Has.tail (Has.tail (Has.tail (Has.tail (Has.tail Has.head)))))) rfl j u hj) RW.jn)) ?_
      refine QuP.cons rfl (fun wq hq => (RW.move rfl rfl RW.jn)) ?_
      refine QuP.nil ?_
      refine UW.step [_] rfl (List.forall_mem_cons.2 ⟨?_, by simp⟩)
      -- mq: op 2: ('Op.call', ('Call.mk', ('Callee.value', ('Operand.func', '12')), ('arr', ('Operand.tmp', '14')), ('arr', '28'))) -> slot 15 ("law.go:59")
      refine RW.callA (R := fun w0 => IsG (cleanF gs) w0) rfl ca12 rfl (fun w' hw' => (refClean_c w' F A n c gs (hr.ext hw'.ext (by simp)) (by omega) (fun g hg => by have := hb2 g hg; omega)).mono (fun e w'' h => h.toA)) ?_
      rintro w0 w1 v hw0 he01 hw1 hlt ⟨A1, n1, c1, rfl, hrd1⟩
      have hcv := hw0.cov
      have hx1 : Ext [] w w1 := hw0.ext.trans0 he01
      refine RW.st (fun _ => True) (fun _ h => .inr (by first | trivial | exact h | exact h.ch | exact (h.rem Rem.head).ch | exact ((h.rem Rem.head).rem Rem.head).ch | exact (((h.rem Rem.head).rem Rem.head).rem Rem.head).ch)) (fun _ h => trivial) ?_
      refine QuP.nil ?_
      refine UW.step [_] rfl (List.forall_mem_cons.2 ⟨?_, by simp⟩)
      refine RW.call rfl ca13 rfl (fun w' hw' => turn_c w' _ _ _ _ (cleanF gs) (hrd1.ext hw'.ext (fun k hk hk2 => by have := hlt k hk2; omega)) hcl a (flOk_of hri)) ?_
      refine RW.st (fun _ => True) (fun _ h => .inr ⟨.inr (by first | trivial | exact h | exact h.ch | exact (h.rem Rem.head).ch | exact ((h.rem Rem.head).rem Rem.head).ch | exact (((h.rem Rem.head).rem Rem.head).rem Rem.head).ch), trivial⟩) (fun _ h => trivial) ?_
      refine QuP.nil ?_
      refine UW.step [_] rfl (List.forall_mem_cons.2 ⟨?_, by simp⟩)
      refine RW.call rfl ca8 rfl (fun w' hw' => right_c w' (turnF (cleanF gs) 0 a) (by have := hfl.1; have := hfl.2; omega)) ?_
      refine RW.st (fun _ => True) (fun _ h => .inr ⟨.inr ⟨.inr (by first | trivial | exact h | exact h.ch | exact (h.rem Rem.head).ch | exact ((h.rem Rem.head).rem Rem.head).ch | exact (((h.rem Rem.head).rem Rem.head).rem Rem.head).ch), trivial⟩, trivial⟩) (fun _ h => trivial) ?_
      refine QuP.cons rfl (fun wq hq => (RW.move rfl rfl RW.jn)) ?_
      refine QuP.nil ?_
      refine UW.step [_] rfl (List.forall_mem_cons.2 ⟨?_, by simp⟩)
      refine RW.guardT rfl rfl (hri2) ?_
      refine RW.call rfl ca10 rfl (fun w' hw' => awake_c w' (hg.ext (hw'.unbase hx1 hcv).ext)) ?_
      refine RW.st (fun _ => True) (fun _ h => .inr ⟨.inr ⟨.inr ⟨.inr (by first | trivial | exact h | exact h.ch | exact (h.rem Rem.head).ch | exact ((h.rem Rem.head).rem Rem.head).ch | exact (((h.rem Rem.head).rem Rem.head).rem Rem.head).ch), trivial⟩, trivial⟩, trivial⟩) (fun _ h => trivial) ?_
      refine QuP.cons rfl (fun wq hq => (RW.pickB rfl rfl hri2 rfl RW.jn)) ?_
      refine QuP.cons rfl (fun wq hq => (RW.assign rfl rfl RW.jn)) ?_
      refine QuP.nil ?_
      refine UW.nil (EX.seq (CW.ret ?_))
      refine EX.fin1 Tryd.results6 rfl (fun wz hw => ?_)
      -- mq: done
      exact ⟨rfl, (hw.unbase hx1 hcv).ext⟩
end Go.Proofs.YtojfodeienchfaaDoor.Mq
