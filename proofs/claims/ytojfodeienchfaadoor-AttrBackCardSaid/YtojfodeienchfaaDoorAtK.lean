/- attributes: the walks of Change, AttrBack -/
import Derived.Test.YtojfodeienchfaaDoorAtJ
import Derived.Test.YtojfodeienchfaaDoorAtP
namespace Go.Proofs.YtojfodeienchfaaDoor.Mq
open Go Go.RowKit Go.Proofs

theorem textL_range {b : AtV} (hb : rightF b = true) : ∀ x ∈ textL b, 0 ≤ x ∧ x < 1000 := by
  simp only [rightF, Bool.and_eq_true] at hb
  obtain ⟨h1, h2, _⟩ := hb
  have hp : ∀ k n p : Int, colF k n = true → 0 ≤ p ∧ p ≤ 100 → ∀ x ∈ paintL k n p, 0 ≤ x ∧ x < 1000 := by
    intro k n p hc hp x hx
    have hn := colF_range hc
    unfold colF at hc
    have hc := of_decide_eq_true hc
    unfold paintL at hx
    split at hx
    · simp only [List.mem_cons, List.not_mem_nil, or_false] at hx
      omega
    · split at hx
      · simp only [List.mem_cons, List.not_mem_nil, or_false] at hx
        omega
      · cases hx
  have hf : ∀ p ∈ flagN, p.1 < 1000 := by decide
  intro x hx
  rw [textL] at hx
  rcases List.mem_append.1 hx with hx | hx
  · rcases List.mem_append.1 hx with hx | hx
    · rcases List.mem_cons.1 hx with rfl | hx
      · omega
      · obtain ⟨p, hp1, rfl⟩ := List.mem_map.1 hx
        have := hf p (List.mem_of_mem_take (List.mem_filter.1 hp1).1)
        omega
    · exact hp _ _ _ h1 (by omega) x hx
  · exact hp _ _ _ h2 (by omega) x hx
theorem textL_len (b : AtV) : (textL b).length ≤ 21 := by
  have h1 := flagsL_len b.fl.toNat 10
  have h2 := paintL_len b.fk b.fn 38
  have h3 := paintL_len b.bk b.bn 48
  simp only [textL, List.length_append, List.length_cons]
  omega
theorem clean_text {b : AtV} (hb : rightF b = true) : CleanGs (single (textL b)) := by
  have hr := textL_range hb
  have hl := textL_len b
  refine ⟨by simp [single, textL], by simp only [single, List.length_map]; omega, fun g hg => ?_⟩
  obtain ⟨x, hx, rfl⟩ := List.mem_map.1 hg
  have := hr x hx
  exact ⟨by simp, by simp, fun n hn => by rw [List.mem_singleton.1 hn]; exact ⟨by omega, by omega⟩⟩
theorem cl_text {b : AtV} (hb : rightF b = true) : Cl (single (textL b)) := by
  have h := clean_text hb
  exact ⟨h.len, fun g hg => ⟨List.length_pos_iff.2 (h.each g hg).1, (h.each g hg).2.1, fun x hx => (h.each g hg).2.2 x hx⟩⟩
theorem itoa_len3 {x : Int} (h : 0 ≤ x ∧ x < 1000) : (Lib.itoa x).length ≤ 3 := by
  obtain ⟨u, rfl⟩ : ∃ u : Nat, x = (u : Int) := ⟨x.toNat, by omega⟩
  rw [Lib.itoa_nonneg]
  by_cases h1 : u < 10
  · rw [dec_small h1]; simp
  · rw [dec_big h1, List.length_append]
    by_cases h2 : u / 10 < 10
    · rw [dec_small h2]; simp
    · rw [dec_big h2, List.length_append, dec_small (u := u / 10 / 10) (by omega)]; simp
theorem text_form {b : AtV} (hb : rightF b = true) : textF b = textT (single (textL b)) ∧ (textF b).length ≤ 400 := by
  have hr := textL_range hb
  have e : textF b = Lib.join ((textL b).map Lib.itoa) [59] := by rw [textF, if_pos hb]; rfl
  constructor
  · rw [e, textT, single, List.map_map]
    refine congrArg (fun l => Lib.join l [59]) (List.map_congr_left fun x hx => ?_)
    have := hr x hx
    show Lib.itoa x = groupT [x]
    rw [groupT, List.map_cons, List.map_nil, Lib.join_one, numT, if_neg (by omega)]
  · have h2 := join_le [59] 3 ((textL b).map Lib.itoa) (fun s hs => by
      obtain ⟨x, hx, rfl⟩ := List.mem_map.1 hs
      exact itoa_len3 (hr x hx))
    have h3 := textL_len b
    simp only [List.length_map, List.length_singleton] at h2
    rw [e]
    omega
def IsPar (b : AtV) (w : World) (v : Value) (w' : World) : Prop := ∃ A n c, v = .tuple #[.slice A n c, .bool true] ∧ RdG w' (fun k => w.heap.size ≤ k) A n c (single (textL b))
theorem parsed_c (w : World) (b : AtV) (hb : rightF b = true) : Calls Tryd.prog 17 [.string (bs (textF b))].toArray w (RetA (IsPar b w) w) := by
  obtain ⟨h1, h2⟩ := text_form hb
  refine (refParse_c w (textF b) h2).mono fun e w' h => ?_
  unfold parseR at h
  rw [h1, head_text (clean_text hb), if_pos rfl, parse_text (clean_text hb)] at h
  obtain ⟨A, n, c, rfl, he, hr⟩ := h
  exact ⟨_, rfl, he, A, n, c, rfl, hr⟩
theorem change_c (w : World) (hg : Gl w) (a b : AtV) (h64 : -9223372036854775808 ≤ b.fl ∧ b.fl ≤ 9223372036854775807) :
    Calls Tryd.prog 18 [atV a, atV b].toArray w (fun e w' => e = .returned (.string (bs (if a = b then [] else textF b))) ∧ Ext [] w w') := by
  refine calls (n := 10) Tryd.func18 rfl Tryd.ntmps18 rfl ?_
  refine CW.sub (H' := SH w [] []) ?_ (Sub.refl _) (fun x hx => SH.start' _ _ hx)
  refine CW.seq (CW.region ?_)
  refine RW.boxA rfl rfl (fun g2 hg2 hf2 => ?_)
  refine RW.boxA rfl rfl (fun g3 hg3 hf3 => ?_)
  refine RW.assign rfl rfl ?_
  refine RW.nil (EX.seq (CW.seq (CW.seq (CW.region ?_))))
  refine RW.loadBA ag25 rfl rfl (by first | exact Has.head | exact Has.tail Has.head | exact Has.tail (Has.tail Has.head) | exact Has.tail (Has.tail (Has.tail Has.head)) | exact Has.tail (Has.tail (Has.tail (Has.tail Has.head))) | exact Has.tail (Has.tail (Has.tail (Has.tail (Has.tail Has.head)))) | exact Has.tail (Has.tail (Has.tail (Has.tail (Has.tail (Has.tail Has.head)))))) rfl rfl ?_
  refine RW.loadBA ag25 rfl rfl (by first | exact Has.head | exact Has.tail Has.head | exact Has.tail (Has.tail Has.head) | exact Has.tail (Has.tail (Has.tail Has.head)) | exact Has.tail (Has.tail (Has.tail (Has.tail Has.head))) | exact Has.tail (Has.tail (Has.tail (Has.tail (Has.tail Has.head)))) | exact Has.tail (Has.tail (Has.tail (Has.tail (Has.tail (Has.tail Has.head)))))) rfl rfl ?_
  refine RW.eqlSt eq25 rfl rfl rfl (by kernel_rfl) (heqA a b) ?_
  refine RW.nil (EX.seq ?_)
  -- mq: cond
  first | refine CW.condD rfl (fun h => ?_) (fun h => ?_) | refine CW.cond rfl (fun h => ?_) (fun h => ?_)
  · skip
    refine CW.seq (CW.region ?_)
    refine RW.assign rfl rfl ?_
    refine RW.nil (EX.seq (CW.ret (EX.seqR ?_)))
    refine EX.fin1 Tryd.results18 rfl (fun wz hw => ?_)
    -- mq: done
    exact ⟨by rw [if_pos h], hw.ext⟩
  · skip
    refine CW.skip (EX.seq (CW.seq (CW.region ?_)))
    refine RW.loadBA ag25 rfl rfl (by first | exact Has.head | exact Has.tail Has.head | exact Has.tail (Has.tail Has.head) | exact Has.tail (Has.tail (Has.tail Has.head)) | exact Has.tail (Has.tail (Has.tail (Has.tail Has.head))) | exact Has.tail (Has.tail (Has.tail (Has.tail (Has.tail Has.head)))) | exact Has.tail (Has.tail (Has.tail (Has.tail (Has.tail (Has.tail Has.head)))))) rfl rfl ?_
    refine RW.call rfl ca15 rfl (fun w' hw' => text_c w' (hg.ext hw'.ext) b h64) ?_
    refine RW.assign rfl rfl ?_
    refine RW.nil (EX.seq (CW.ret ?_))
    refine EX.fin1 Tryd.results18 rfl (fun wz hw => ?_)
    -- mq: done
    exact ⟨by rw [if_neg h], hw.ext⟩
theorem attrBack_c (w : World) (hg : Gl w) (a b : AtV) (h64 : -9223372036854775808 ≤ b.fl ∧ b.fl ≤ 9223372036854775807) :
    Calls Tryd.prog 7 [atV a, atV b].toArray w (fun e w' => e = .returned (.bool true) ∧ Ext [] w w') := by
  refine calls (n := 72) Tryd.func7 rfl Tryd.ntmps7 rfl ?_
  refine CW.sub (H' := SH w [] []) ?_ (Sub.refl _) (fun x hx => SH.start' _ _ hx)
  refine CW.seq (CW.region ?_)
  refine RW.boxA rfl rfl (fun g2 hg2 hf2 => ?_)
  refine RW.boxA rfl rfl (fun g3 hg3 hf3 => ?_)
  refine RW.assign rfl rfl ?_
  refine RW.nil (EX.seq (CW.seq (CW.seq ?_)))
  -- mq: region
  refine CW.region ?_
  refine RW.loadBA ag25 rfl rfl (by first | exact Has.head | exact Has.tail Has.head | exact Has.tail (Has.tail Has.head) | exact Has.tail (Has.tail (Has.tail Has.head)) | exact Has.tail (Has.tail (Has.tail (Has.tail Has.head))) | exact Has.tail (Has.tail (Has.tail (Has.tail (Has.tail Has.head)))) | exact Has.tail (Has.tail (Has.tail (Has.tail (Has.tail (Has.tail Has.head)))))) rfl rfl ?_
  refine RW.call rfl ca9 rfl (fun w' hw' => refRight_c w' a) ?_
  refine RW.not_ rfl rfl ?_
  refine RW.move rfl rfl ?_
  -- mq: guard slot 13
  refine RW.casesB 13 rfl (fun hA => ?_) (fun hA => ?_)
  · skip
    refine RW.guardF rfl rfl rfl hA ?_
    refine RW.guardF rfl rfl rfl hA ?_
    refine RW.guardF rfl rfl rfl hA ?_
    refine RW.pickB rfl rfl hA rfl ?_
    refine RW.nil (EX.seq ?_)
    -- mq: cond
    refine CW.condT rfl (rfl) ?_
    refine CW.seq (CW.region ?_)
    refine RW.call rfl ca10 rfl (fun w' hw' => awake_c w' (hg.ext hw'.ext)) ?_
    refine RW.assign rfl rfl ?_
    refine RW.nil (EX.seq (CW.ret (EX.seqR ?_)))
    refine EX.fin1 Tryd.results7 rfl (fun wz hw => ?_)
    -- mq: done
    exact ⟨rfl, hw.ext⟩
  · skip
    have ha : rightF a = true := by simpa using hA
    refine RW.guardT rfl rfl hA ?_
    refine RW.loadBA ag25 rfl rfl (by first | exact Has.head | exact Has.tail Has.head | exact Has.tail (Has.tail Has.head) | exact Has.tail (Has.tail (Has.tail Has.head)) | exact Has.tail (Has.tail (Has.tail (Has.tail Has.head))) | exact Has.tail (Has.tail (Has.tail (Has.tail (Has.tail Has.head)))) | exact Has.tail (Has.tail (Has.tail (Has.tail (Has.tail (Has.tail Has.head)))))) rfl rfl ?_
    refine RW.guardT rfl rfl hA ?_
    refine RW.call rfl ca9 rfl (fun w' hw' => refRight_c w' b) ?_
    refine RW.guardT rfl rfl hA ?_
    refine RW.not_ rfl rfl ?_
    refine RW.pickC rfl rfl hA rfl ?_
    refine RW.nil (EX.seq ?_)
    -- mq: cond
    first | refine CW.condD rfl (fun hB => ?_) (fun hB => ?_) | refine CW.cond rfl (fun hB => ?_) (fun hB => ?_)
    · skip
      refine CW.seq (CW.region ?_)
      refine RW.call rfl ca10 rfl (fun w' hw' => awake_c w' (hg.ext hw'.ext)) ?_
      refine RW.assign rfl rfl ?_
      refine RW.nil (EX.seq (CW.ret (EX.seqR ?_)))
      refine EX.fin1 Tryd.results7 rfl (fun wz hw => ?_)
      -- mq: done
      exact ⟨rfl, hw.ext⟩
    · skip
      have hb : rightF b = true := by simpa using hB
      have hcl := cl_text hb
      have htt := turn_text a b hb
      refine CW.skip (EX.seq (CW.seq ?_))
      -- mq: region
      refine CW.region ?_
      refine RW.loadBA ag25 rfl rfl (by first | exact Has.head | exact Has.tail Has.head | exact Has.tail (Has.tail Has.head) | exact Has.tail (Has.tail (Has.tail Has.head)) | exact Has.tail (Has.tail (Has.tail (Has.tail Has.head))) | exact Has.tail (Has.tail (Has.tail (Has.tail (Has.tail Has.head)))) | exact Has.tail (Has.tail (Has.tail (Has.tail (Has.tail (Has.tail Has.head)))))) rfl rfl ?_
      refine RW.call rfl ca15 rfl (fun w' hw' => text_c w' (hg.ext hw'.ext) b h64) ?_
      -- mq: at
      refine RW.callA (R := fun w0 => IsPar b w0) rfl ca17 rfl (fun w' hw' => parsed_c w' b hb) ?_
      rintro w0 w1 v hw0 he01 hw1 hlt ⟨A1, n1, c1, rfl, hrd1⟩
      have hcv := hw0.cov
      have hx1 : Ext [] w w1 := hw0.ext.trans0 he01
      refine RW.move rfl rfl ?_
      refine RW.extract rfl rfl rfl ?_
      refine RW.extract rfl rfl rfl ?_
      refine RW.assign rfl rfl ?_
      refine RW.assign rfl rfl ?_
      refine RW.nil (EX.seq (CW.seq ?_))
      -- mq: region
      refine CW.region ?_
      refine RW.loadBA ag25 rfl rfl (by first | exact Has.head | exact Has.tail Has.head | exact Has.tail (Has.tail Has.head) | exact Has.tail (Has.tail (Has.tail Has.head)) | exact Has.tail (Has.tail (Has.tail (Has.tail Has.head))) | exact Has.tail (Has.tail (Has.tail (Has.tail (Has.tail Has.head)))) | exact Has.tail (Has.tail (Has.tail (Has.tail (Has.tail (Has.tail Has.head)))))) rfl rfl ?_
      refine RW.loadBA ag25 rfl rfl (by first | exact Has.head | exact Has.tail Has.head | exact Has.tail (Has.tail Has.head) | exact Has.tail (Has.tail (Has.tail Has.head)) | exact Has.tail (Has.tail (Has.tail (Has.tail Has.head))) | exact Has.tail (Has.tail (Has.tail (Has.tail (Has.tail Has.head)))) | exact Has.tail (Has.tail (Has.tail (Has.tail (Has.tail (Has.tail Has.head)))))) rfl rfl ?_
      refine RW.call rfl ca18 rfl (fun w' hw' => change_c w' (hg.ext (hw'.unbase hx1 hcv).ext) a b h64) ?_
      refine RW.assign rfl rfl ?_
      refine RW.nil (EX.seq (CW.seq (CW.seq (CW.region ?_))))
      refine RW.loadBA ag25 rfl rfl (by first | exact Has.head | exact Has.tail Has.head | exact Has.tail (Has.tail Has.head) | exact Has.tail (Has.tail (Has.tail Has.head)) | exact Has.tail (Has.tail (Has.tail (Has.tail Has.head))) | exact Has.tail (Has.tail (Has.tail (Has.tail (Has.tail Has.head)))) | exact Has.tail (Has.tail (Has.tail (Has.tail (Has.tail (Has.tail Has.head)))))) rfl rfl ?_
      refine RW.loadBA ag25 rfl rfl (by first | exact Has.head | exact Has.tail Has.head | exact Has.tail (Has.tail Has.head) | exact Has.tail (Has.tail (Has.tail Has.head)) | exact Has.tail (Has.tail (Has.tail (Has.tail Has.head))) | exact Has.tail (Has.tail (Has.tail (Has.tail (Has.tail Has.head)))) | exact Has.tail (Has.tail (Has.tail (Has.tail (Has.tail (Has.tail Has.head)))))) rfl rfl ?_
      refine RW.eqlSt eq25 rfl rfl rfl (by kernel_rfl) (heqA a b) ?_
      refine RW.nil (EX.seq ?_)
      -- mq: cond
      first | refine CW.condD rfl (fun hab => ?_) (fun hab => ?_) | refine CW.cond rfl (fun hab => ?_) (fun hab => ?_)
      · skip
        refine CW.seq ?_
        -- mq: region
        rw [if_pos hab]
        refine CW.drawU [0, 1, 2, 3, 4, 5, 6, 7, 9] 2 [[(8, false, [10, 11, 12]), (13, false, [14, 15])]] (Ch [blk g3 [.int .i64 b.fk, .int .i64 b.fn, .int .i64 b.bk, .int .i64 b.bn, .int .i64 b.fl] 25, blk g2 [.int .i64 a.fk, .int .i64 a.fn, .int .i64 a.bk, .int .i64 a.bn, .int .i64 a.fl] 25]) mixed (by kernel_rfl) (fun _ hw => hw.drew) (fun _ h => (by first | trivial | exact h | exact h.ch | exact (h.rem Rem.head).ch | exact ((h.rem Rem.head).rem Rem.head).ch | exact (((h.rem Rem.head).rem Rem.head).rem Rem.head).ch)) ?_
        refine QuP.cons rfl (fun wq hq => (RW.move rfl rfl RW.jn)) ?_
        refine QuP.cons rfl (fun wq hq => (RW.eqlS rfl rfl rfl RW.jn)) ?_
        refine QuP.cons rfl (fun wq hq => (RW.move rfl rfl RW.jn)) ?_
        refine QuP.cons rfl (fun wq hq => RW.guardT rfl rfl (rfl) (RW.move rfl rfl RW.jn)) ?_
        refine QuP.cons rfl (fun wq hq => (RW.pickB rfl rfl rfl rfl RW.jn)) ?_
        refine QuP.cons rfl (fun wq hq => (RW.move rfl rfl RW.jn)) ?_
        refine QuP.cons rfl (fun wq hq => RW.guardT rfl rfl (rfl) (RW.loadA ag25 rfl rfl rfl (fun w1 e1 j u hj => by subst e1; exact hq.blk_at (sz := 5) (by first | exact Has.head | exact Has.tail Has.head | exact Has.tail (Has.tail Has.head) | exact Has.tail (Has.tail (Has.tail Has.head)) | exact Has.tail (Has.tail (Has.tail (Has.tail Has.head))) | exact Has.tail (Has.tail (Has.tail (Has.tail (Has.tail Has.head)))) | exact Has.tail (Has.tail (Has.tail (Has.tail (Has.tail (Has.tail Has.head)))))) rfl j u hj) RW.jn)) ?_
        refine QuP.cons rfl (fun wq hq => RW.guardT rfl rfl (rfl) (RW.move rfl rfl RW.jn)) ?_
        refine QuP.cons rfl (fun wq hq => RW.guardT rfl rfl (rfl) (RW.loadA ag25 rfl rfl rfl (fun w1 e1 j u hj => by subst e1; exact hq.blk_at (sz := 5) (by first | exact Has.head | exact Has.tail Has.head | exact Has.tail (Has.tail Has.head) | exact Has.tail (Has.tail (Has.tail Has.head)) | exact Has.tail (Has.tail (Has.tail (Has.tail Has.head))) | exact Has.tail (Has.tail (Has.tail (Has.tail (Has.tail Has.head)))) | exact Has.tail (Has.tail (Has.tail (Has.tail (Has.tail (Has.tail Has.head)))))) rfl j u hj) RW.jn)) ?_
        refine QuP.nil ?_
        refine UW.step [_] rfl (List.forall_mem_cons.2 ⟨?_, by simp⟩)
        refine RW.guardT rfl rfl (rfl) ?_
        refine RW.call (v := atV b) rfl ca13 rfl (fun w' hw' => by have h := turn_c w' _ _ _ _ (single (textL b)) (hrd1.ext hw'.ext (fun k hk hk2 => by have := hlt k hk2; omega)) hcl a (flOk_of ha); rw [htt] at h; exact h) ?_
        refine RW.st (fun _ => True) (fun _ h => .inr (by first | trivial | exact h | exact h.ch | exact (h.rem Rem.head).ch | exact ((h.rem Rem.head).rem Rem.head).ch | exact (((h.rem Rem.head).rem Rem.head).rem Rem.head).ch)) (fun _ h => trivial) ?_
        refine QuP.cons rfl (fun wq hq => RW.guardT rfl rfl (rfl) (RW.eqlSt eq25 rfl rfl rfl (by kernel_rfl) ((heqA b b).trans (decide_eq_true rfl)) RW.jn)) ?_
        refine QuP.cons rfl (fun wq hq => (RW.pickB rfl rfl rfl rfl RW.jn)) ?_
        refine QuP.cons rfl (fun wq hq => (RW.move rfl rfl RW.jn)) ?_
        refine QuP.nil ?_
        refine UW.step [_] rfl (List.forall_mem_cons.2 ⟨?_, by simp⟩)
        refine RW.guardT rfl rfl (rfl) ?_
        refine RW.call rfl ca10 rfl (fun w' hw' => awake_c w' (hg.ext (hw'.unbase hx1 hcv).ext)) ?_
        refine RW.st (fun _ => True) (fun _ h => .inr ⟨.inr (by first | trivial | exact h | exact h.ch | exact (h.rem Rem.head).ch | exact ((h.rem Rem.head).rem Rem.head).ch | exact (((h.rem Rem.head).rem Rem.head).rem Rem.head).ch), trivial⟩) (fun _ h => trivial) ?_
        refine QuP.cons rfl (fun wq hq => (RW.pickB rfl rfl rfl rfl RW.jn)) ?_
        refine QuP.cons rfl (fun wq hq => (RW.assign rfl rfl RW.jn)) ?_
        refine QuP.nil ?_
        refine UW.nil (EX.seq (CW.ret (EX.seqR ?_)))
        refine EX.fin1 Tryd.results7 rfl (fun wz hw => ?_)
        -- mq: done
        exact ⟨rfl, (hw.unbase hx1 hcv).ext⟩
      · skip
        refine CW.skip (EX.seq (CW.seq ?_))
        -- mq: region
        rw [if_neg hab]
        refine CW.region ?_
        refine RW.move rfl rfl ?_
        -- mq: at
        refine RW.callA (R := fun w0 => IsPar b w0) rfl ca17 rfl (fun w' hw' => parsed_c w' b hb) ?_
        rintro w2 w3 v hw2 he23 hw3 hlt3 ⟨A3, n3, c3, rfl, hrd3⟩
        have hcv2 := hw2.cov
        have hrd1' := (hrd1.ext hw2.ext (fun k hk hk2 => by have := hlt k hk2; omega)).ext he23 (by simp)
        have hx2 : Ext [] w w3 := (hw2.unbase hx1 hcv).ext.trans0 he23
        refine RW.move rfl rfl ?_
        refine RW.extract rfl rfl rfl ?_
        refine RW.extract rfl rfl rfl ?_
        refine RW.assign rfl rfl ?_
        refine RW.assign rfl rfl ?_
        refine RW.nil (EX.seq (CW.seq ?_))
        -- mq: region
        refine CW.drawU [0, 1, 2, 3, 4, 5, 6, 8] 3 [[(7, false, [9, 10, 11, 12, 13, 15]), (14, false, [16, 17, 18]), (19, false, [20, 21])]] (Ch [blk g3 [.int .i64 b.fk, .int .i64 b.fn, .int .i64 b.bk, .int .i64 b.bn, .int .i64 b.fl] 25, blk g2 [.int .i64 a.fk, .int .i64 a.fn, .int .i64 a.bk, .int .i64 a.bn, .int .i64 a.fl] 25]) mixed (by kernel_rfl) (fun _ hw => hw.drew) (fun _ h => (by first | trivial | exact h | exact h.ch | exact (h.rem Rem.head).ch | exact ((h.rem Rem.head).rem Rem.head).ch | exact (((h.rem Rem.head).rem Rem.head).rem Rem.head).ch)) ?_
        refine QuP.cons rfl (fun wq hq => (RW.move rfl rfl RW.jn)) ?_
        refine QuP.cons rfl (fun wq hq => (RW.move rfl rfl RW.jn)) ?_
        refine QuP.cons rfl (fun wq hq => RW.guardT rfl rfl (rfl) (RW.move rfl rfl RW.jn)) ?_
        refine QuP.cons rfl (fun wq hq => (RW.pickB rfl rfl rfl rfl RW.jn)) ?_
        refine QuP.cons rfl (fun wq hq => (RW.move rfl rfl RW.jn)) ?_
        refine QuP.cons rfl (fun wq hq => RW.guardT rfl rfl (rfl) (RW.loadA ag25 rfl rfl rfl (fun w1 e1 j u hj => by subst e1; exact hq.blk_at (sz := 5) (by first | exact Has.head | exact Has.tail Has.head | exact Has.tail (Has.tail Has.head) | exact Has.tail (Has.tail (Has.tail Has.head)) | exact Has.tail (Has.tail (Has.tail (Has.tail Has.head))) | exact Has.tail (Has.tail (Has.tail (Has.tail (Has.tail Has.head)))) | exact Has.tail (Has.tail (Has.tail (Has.tail (Has.tail (Has.tail Has.head)))))) rfl j u hj) RW.jn)) ?_
        refine QuP.cons rfl (fun wq hq => RW.guardT rfl rfl (rfl) (RW.move rfl rfl RW.jn)) ?_
        refine QuP.cons rfl (fun wq hq => RW.guardT rfl rfl (rfl) (RW.loadA ag25 rfl rfl rfl (fun w1 e1 j u hj => by subst e1; exact hq.blk_at (sz := 5) (by first | exact Has.head | exact Has.tail Has.head | exact Has.tail (Has.tail Has.head) | exact Has.tail (Has.tail (Has.tail Has.head)) | exact Has.tail (Has.tail (Has.tail (Has.tail Has.head))) | exact Has.tail (Has.tail (Has.tail (Has.tail (Has.tail Has.head)))) | exact Has.tail (Has.tail (Has.tail (Has.tail (Has.tail (Has.tail Has.head)))))) rfl j u hj) RW.jn)) ?_
        refine QuP.nil ?_
        refine UW.step [_] rfl (List.forall_mem_cons.2 ⟨?_, by simp⟩)
        refine RW.guardT rfl rfl (rfl) ?_
        refine RW.call (v := atV b) rfl ca13 rfl (fun w' hw' => by have h := turn_c w' _ _ _ _ (single (textL b)) (hrd1'.ext hw'.ext (fun k hk hk2 => by have := hlt k hk2; omega)) hcl a (flOk_of ha); rw [htt] at h; exact h) ?_
        refine RW.st (Ch [blk g3 [.int .i64 b.fk, .int .i64 b.fn, .int .i64 b.bk, .int .i64 b.bn, .int .i64 b.fl] 25, blk g2 [.int .i64 a.fk, .int .i64 a.fn, .int .i64 a.bk, .int .i64 a.bn, .int .i64 a.fl] 25]) (fun _ h => .inr (by first | trivial | exact h | exact h.ch | exact (h.rem Rem.head).ch | exact ((h.rem Rem.head).rem Rem.head).ch | exact (((h.rem Rem.head).rem Rem.head).rem Rem.head).ch)) (fun _ h => (by first | trivial | exact h | exact h.ch | exact (h.rem Rem.head).ch | exact ((h.rem Rem.head).rem Rem.head).ch | exact (((h.rem Rem.head).rem Rem.head).rem Rem.head).ch)) ?_
        refine QuP.cons rfl (fun wq hq => RW.guardT rfl rfl (rfl) (RW.eqlSt eq25 rfl rfl rfl (by kernel_rfl) ((heqA b b).trans (decide_eq_true rfl)) RW.jn)) ?_
        refine QuP.cons rfl (fun wq hq => (RW.pickB rfl rfl rfl rfl RW.jn)) ?_
        refine QuP.cons rfl (fun wq hq => (RW.move rfl rfl RW.jn)) ?_
        refine QuP.cons rfl (fun wq hq => RW.guardT rfl rfl (rfl) (RW.loadA ag25 rfl rfl rfl (fun w1 e1 j u hj => by subst e1; exact hq.blk_at (sz := 5) (by first | exact Has.head | exact Has.tail Has.head | exact Has.tail (Has.tail Has.head) | exact Has.tail (Has.tail (Has.tail Has.head)) | exact Has.tail (Has.tail (Has.tail (Has.tail Has.head))) | exact Has.tail (Has.tail (Has.tail (Has.tail (Has.tail Has.head)))) | exact Has.tail (Has.tail (Has.tail (Has.tail (Has.tail (Has.tail Has.head)))))) rfl j u hj) RW.jn)) ?_
        refine QuP.cons rfl (fun wq hq => RW.guardT rfl rfl (rfl) (RW.move rfl rfl RW.jn)) ?_
        refine QuP.cons rfl (fun wq hq => RW.guardT rfl rfl (rfl) (RW.loadA ag25 rfl rfl rfl (fun w1 e1 j u hj => by subst e1; exact hq.blk_at (sz := 5) (by first | exact Has.head | exact Has.tail Has.head | exact Has.tail (Has.tail Has.head) | exact Has.tail (Has.tail (Has.tail Has.head)) | exact Has.tail (Has.tail (Has.tail (Has.tail Has.head))) | exact Has.tail (Has.tail (Has.tail (Has.tail (Has.tail Has.head)))) | exact Has.tail (Has.tail (Has.tail (Has.tail (Has.tail (Has.tail Has.head)))))) rfl j u hj) RW.jn)) ?_
        refine QuP.nil ?_
        refine UW.step [_] rfl (List.forall_mem_cons.2 ⟨?_, by simp⟩)
        refine RW.guardT rfl rfl (rfl) ?_
        refine RW.call (v := atV b) rfl ca13 rfl (fun w' hw' => by have h := turn_c w' _ _ _ _ (single (textL b)) (hrd3.ext hw'.ext (fun k hk hk2 => by have := hlt3 k hk2; omega)) hcl a (flOk_of ha); rw [htt] at h; exact h) ?_
        refine RW.st (fun _ => True) (fun _ h => .inr ⟨.inr (by first | trivial | exact h | exact h.ch | exact (h.rem Rem.head).ch | exact ((h.rem Rem.head).rem Rem.head).ch | exact (((h.rem Rem.head).rem Rem.head).rem Rem.head).ch), (by first | trivial | exact h | exact h.ch | exact (h.rem Rem.head).ch | exact ((h.rem Rem.head).rem Rem.head).ch | exact (((h.rem Rem.head).rem Rem.head).rem Rem.head).ch)⟩) (fun _ h => trivial) ?_
        refine QuP.cons rfl (fun wq hq => RW.guardT rfl rfl (rfl) (RW.eqlSt eq25 rfl rfl rfl (by kernel_rfl) ((heqA b b).trans (decide_eq_true rfl)) RW.jn)) ?_
        refine QuP.cons rfl (fun wq hq => (RW.pickB rfl rfl rfl rfl RW.jn)) ?_
        refine QuP.cons rfl (fun wq hq => (RW.move rfl rfl RW.jn)) ?_
        refine QuP.nil ?_
        refine UW.step [_] rfl (List.forall_mem_cons.2 ⟨?_, by simp⟩)
        refine RW.guardT rfl rfl (rfl) ?_
        refine RW.call rfl ca10 rfl (fun w' hw' => awake_c w' (hg.ext ((hw'.unbase (hw2.ext.trans0 he23) hcv2).unbase hx1 hcv).ext)) ?_
        refine RW.st (fun _ => True) (fun _ h => .inr ⟨.inr ⟨.inr (by first | trivial | exact h | exact h.ch | exact (h.rem Rem.head).ch | exact ((h.rem Rem.head).rem Rem.head).ch | exact (((h.rem Rem.head).rem Rem.head).rem Rem.head).ch), (by first | trivial | exact h | exact h.ch | exact (h.rem Rem.head).ch | exact ((h.rem Rem.head).rem Rem.head).ch | exact (((h.rem Rem.head).rem Rem.head).rem Rem.head).ch)⟩, trivial⟩) (fun _ h => trivial) ?_
        refine QuP.cons rfl (fun wq hq => (RW.pickB rfl rfl rfl rfl RW.jn)) ?_
        refine QuP.cons rfl (fun wq hq => (RW.assign rfl rfl RW.jn)) ?_
        refine QuP.nil ?_
        refine UW.nil (EX.seq (CW.ret ?_))
        refine EX.fin1 Tryd.results7 rfl (fun wz hw => ?_)
        -- mq: done
        exact ⟨rfl, ((hw.unbase (hw2.ext.trans0 he23) hcv2).unbase hx1 hcv).ext⟩
end Go.Proofs.YtojfodeienchfaaDoor.Mq
