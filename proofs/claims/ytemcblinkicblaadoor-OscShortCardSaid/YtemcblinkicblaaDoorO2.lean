/- osc: Unescape, Escape -/
import Derived.Test.YtemcblinkicblaaDoorO1
import Derived.Test.YtemcblinkicblaaDoorDrawU
namespace Go.Proofs.YtemcblinkicblaaDoor.Mq
open Go Go.RowKit Go.Proofs

theorem hasP_two {s : List UInt8} {a b : UInt8} : hasP s [a, b] = true ↔ s.take 2 = [a, b] := by
  unfold hasP
  rw [Bool.and_eq_true, decide_eq_true_eq, decide_eq_true_eq]
  constructor
  · exact fun h => h.2
  · intro h
    refine ⟨?_, h⟩
    have := congrArg List.length h
    rw [List.length_take] at this
    simp at this
    show 2 ≤ s.length
    omega
theorem nextE_bb {s : List UInt8} (h : s.take 2 = [92, 92]) : nextE s = (2, 92) := by unfold nextE; rw [if_pos h]
theorem nextE_four {s : List UInt8} (h : s.take 2 = [92, 120]) (h4 : 4 ≤ s.length) (ha : 0 ≤ hexI (s.getD 2 0)) (hb : 0 ≤ hexI (s.getD 3 0)) : nextE s = (4, twoU (s.getD 2 0) (s.getD 3 0)) := by
  unfold nextE
  rw [if_neg (by rw [h]; decide), if_pos ⟨h, h4, ha, hb⟩]
theorem nextE_one {s : List UInt8} (h1 : ¬ s.take 2 = [92, 92]) (h2 : ¬ (s.take 2 = [92, 120] ∧ 4 ≤ s.length ∧ 0 ≤ hexI (s.getD 2 0) ∧ 0 ≤ hexI (s.getD 3 0))) : nextE s = (1, s.headD 0) := by
  unfold nextE
  rw [if_neg h1, if_neg h2]
theorem unesc_at {s : List UInt8} {i : Nat} (h : i < s.length) : unescF (s.drop i) = (nextE (s.drop i)).2 :: unescF (s.drop (i + (nextE (s.drop i)).1)) := by
  rw [unescF_step (by intro e; have := congrArg List.length e; rw [List.length_drop] at this; simp at this; omega), List.drop_drop]
theorem Unescape_c (w : World) (hg : Ge w) (s : List UInt8) (hs : s.length ≤ 1000000) :
    Calls Tryd.prog 16 [.string (bs s)].toArray w (fun e w' => e = .returned (.string (bs (unescF s))) ∧ Ext [] w w') := by
  refine calls (n := 49) Tryd.func16 rfl Tryd.ntmps16 rfl ?_
  refine CW.sub (H' := SH w [] []) ?_ (Sub.refl _) (fun x hx => SH.start' _ _ hx)
  refine CW.seq (CW.region ?_)
  refine RW.assign rfl rfl ?_
  refine RW.nil (EX.seq (CW.seq ?_))
  -- mq: region
  refine CW.ownNil 5 1 ?_
  refine CW.region ?_
  refine RW.assign rfl rfl ?_
  refine RW.nil (EX.seq (CW.seq (CW.seq (CW.region ?_))))
  refine RW.assign rfl rfl ?_
  refine RW.nil (EX.seq (CW.block ?_))
  -- mq: loop
  refine CW.loop (ι := Nat × Value × List UInt8) (fun t => [(0, .string (bs s)), (3, t.2.1), (4, .int .i64 (t.1 : Int))]) (fun t => SH w [] [own 5 1 t.2.1 t.2.2.length (EU8.all t.2.2)]) (fun t => t.1 ≤ s.length ∧ t.2.2.length ≤ t.1 ∧ unescF s = t.2.2 ++ unescF (s.drop t.1)) (fun t => s.length - t.1) ?_ ?_
  · exact fun w' hw' => ⟨(0, _, []), ⟨Nat.zero_le _, Nat.le_refl _, rfl⟩, (by repeat (first | exact Sub.nil | refine Sub.cons (by rfl) ?_)), hw'⟩
  · rintro ⟨i, v, O⟩ ⟨hi, hO, hsp⟩
    dsimp only at hi hO hsp ⊢
    refine CW.seq (CW.seq (CW.region ?_))
    refine RW.move rfl rfl ?_
    refine RW.move rfl rfl ?_
    refine RW.lenS Tryd.underlying9 rfl rfl ?_
    refine RW.lss rfl rfl rfl ?_
    refine RW.nil (EX.seq ?_)
    -- mq: cond
    first | refine CW.condD rfl (fun hlt => ?_) (fun hlt => ?_) | refine CW.cond rfl (fun hlt => ?_) (fun hlt => ?_)
    · skip
      have hst := unesc_at (s := s) (i := i) (by omega)
      have hdl : (s.drop i).length = s.length - i := List.length_drop
      obtain ⟨c, hc⟩ : ∃ c, s[i]? = some c := ⟨s[i]'(by omega), List.getElem?_eq_getElem _⟩
      have hhd : (s.drop i).headD 0 = c := by
        rw [List.headD_eq_head?_getD, List.head?_drop, hc]; rfl
      have hgD : ∀ k, (s.drop i).getD k 0 = s.getD (i + k) 0 := fun k => by rw [List.getD_eq_getElem?_getD, List.getElem?_drop, List.getD_eq_getElem?_getD]
      have hone : ∀ (vv : Value) (ww : World) (hh : nextE (s.drop i) = (1, c)), unescF s = (O ++ [c]) ++ unescF (s.drop (i + 1)) := fun _ _ hh => by rw [hsp, hst, hh]; simp
      refine CW.skip (EX.seq (CW.seq (CW.block (CW.seq (CW.region ?_)))))
      refine RW.move rfl rfl ?_
      refine RW.move rfl rfl ?_
      refine RW.sliceStrL i Tryd.underlying9 rfl rfl rfl (by first | rfl | omega) (by first | omega | (simp; done) | (simp; omega)) ?_
      refine RW.assign rfl rfl ?_
      refine RW.nil (EX.seq (CW.seq (CW.seq ?_)))
      -- mq: region
      refine CW.region ?_
      refine RW.move rfl rfl ?_
      refine RW.callP rfl ca34 rfl (fun w' _ => HasPrefix_c w' (s.drop i) [92, 92]) ?_
      refine RW.nil (EX.seq ?_)
      -- mq: cond
      first | refine CW.condD rfl (fun hbb => ?_) (fun hbb => ?_) | refine CW.cond rfl (fun hbb => ?_) (fun hbb => ?_)
      · skip
        have h2 := hasP_two.1 hbb
        have hnx := nextE_bb h2
        have hle := nextE_le (s := s.drop i) (by intro e; rw [e] at h2; cases h2)
        rw [hnx] at hst hle
        dsimp only at hst hle
        have hc2 : s[i + 1]? = some 92 := by
          have := congrArg (fun l => l[1]?) h2
          rw [List.getElem?_take, if_pos (by decide), List.getElem?_drop] at this
          exact this
        refine CW.region ?_
        refine RW.move rfl rfl ?_
        refine RW.add rfl rfl rfl (wrap64 (by omega) (by omega)) ?_
        refine RW.assign rfl rfl ?_
        refine RW.nil (EX.seq ?_)
        -- mq: region
        refine CW.region ?_
        refine RW.move rfl rfl ?_
        refine RW.move rfl rfl ?_
        refine RW.move rfl rfl ?_
        refine RW.ixStr (q := i + 1) Tryd.underlying9 rfl rfl rfl (by omega) hc2 ?_
        refine RW.buildSlc sl56 rfl rfl rfl rfl (fun g45 hg45 hf45 => ?_)
        refine RW.append1 sl56 rfl rfl rfl (by first | exact Rem.head | exact Rem.tail Rem.head | exact Rem.tail (Rem.tail Rem.head) | exact Rem.tail (Rem.tail (Rem.tail Rem.head)) | exact Rem.tail (Rem.tail (Rem.tail (Rem.tail Rem.head))) | exact Rem.tail (Rem.tail (Rem.tail (Rem.tail (Rem.tail Rem.head)))) | exact Rem.tail (Rem.tail (Rem.tail (Rem.tail (Rem.tail (Rem.tail Rem.head)))))) (fun _ => by first | exact Upd.head | exact Upd.tail Upd.head | exact Upd.tail (Upd.tail Upd.head) | exact Upd.tail (Upd.tail (Upd.tail Upd.head)) | exact Upd.tail (Upd.tail (Upd.tail (Upd.tail Upd.head))) | exact Upd.tail (Upd.tail (Upd.tail (Upd.tail (Upd.tail Upd.head)))) | exact Upd.tail (Upd.tail (Upd.tail (Upd.tail (Upd.tail (Upd.tail Upd.head)))))) rfl (by repeat (first | exact Ones.nil | exact Enc.ones _ _ | refine Ones.cons rfl ?_)) (by simp only [maxLen]; omega) (by omega) (fun v46 hv46 => ?_)
        refine RW.assign rfl rfl ?_
        refine RW.nil (EX.bkN (EX.seq (CW.region ?_)))
        refine RW.move rfl rfl ?_
        refine RW.add rfl rfl rfl (wrap64 (by omega) (by omega)) ?_
        refine RW.assign rfl rfl ?_
        refine RW.nil ?_
        -- mq: loopend
        refine EX.lpN (i + 2, v46, O ++ [92]) ⟨by dsimp only; omega, by dsimp only; simp; omega, by rw [hsp, hst]; simp⟩ (by dsimp only; omega) (by repeat (first | exact Sub.nil | refine Sub.cons (by rfl) ?_)) (fun w' hw' => ?_)
        dsimp only
        rw [Enc.all_snoc EU8, List.length_append]
        exact hw'
      · skip
        have h2 : ¬ (s.drop i).take 2 = [92, 92] := fun e => by rw [hasP_two.2 e] at hbb; cases hbb
        refine CW.seq (CW.region ?_)
        refine RW.move rfl rfl ?_
        refine RW.callP rfl ca34 rfl (fun w' _ => HasPrefix_c w' (s.drop i) [92, 120]) ?_
        refine RW.move rfl rfl ?_
        -- mq: guard slot 23
        refine RW.casesB 23 rfl (fun hx => ?_) (fun hx => ?_)
        · skip
          have hx2 := hasP_two.1 hx
          refine RW.guardT rfl rfl hx ?_
          refine RW.move rfl rfl ?_
          refine RW.guardT rfl rfl hx ?_
          refine RW.lenS Tryd.underlying9 rfl rfl ?_
          refine RW.guardT rfl rfl hx ?_
          refine RW.geq rfl rfl rfl ?_
          refine RW.pickB rfl rfl hx rfl ?_
          refine RW.nil (EX.seq ?_)
          -- mq: cond
          first | refine CW.condD rfl (fun h4 => ?_) (fun h4 => ?_) | refine CW.cond rfl (fun h4 => ?_) (fun h4 => ?_)
          · skip
            obtain ⟨x, y, a, b, t, hd⟩ : ∃ x y a b t, s.drop i = x :: y :: a :: b :: t := by
              match hm : s.drop i with
              | x :: y :: a :: b :: t => exact ⟨x, y, a, b, t, rfl⟩
              | [] | [_] | [_, _] | [_, _, _] => rw [hm] at hdl h4; simp at hdl h4
            have hsl : ((s.drop i).take 4).drop 2 = [a, b] := by rw [hd]; rfl
            have ea : (s.drop i).getD 2 0 = a := by rw [hd]; rfl
            have eb : (s.drop i).getD 3 0 = b := by rw [hd]; rfl
            have hnf := nextE_four hx2 (by omega)
            have hno := nextE_one (s := s.drop i) h2
            rw [ea, eb] at hnf hno
            refine CW.seq ?_
            -- mq: region
            refine CW.region ?_
            refine RW.move rfl rfl ?_
            refine RW.sliceStrLH 2 4 Tryd.underlying9 rfl rfl rfl rfl (by first | rfl | omega) (by first | rfl | omega) (by omega) (by first | omega | (simp; done) | (simp; omega)) ?_
            -- mq: at
            rw [hsl]
            refine RW.callA (R := fun _ v _ => hexV2 a b v) rfl ca35 rfl (fun w' hw' => oscHex_c w' (hg.ext hw'.ext) a b) (fun w1 w2 vv hw1 he12 hw2 hlt2 hv => ?_)
            obtain ⟨n, rfl, hn⟩ := hv
            have hx12 := hw1.ext.trans0 he12
            have hcv := hw1.cov
            refine RW.move rfl rfl ?_
            refine RW.extract rfl rfl rfl ?_
            refine RW.extract rfl rfl rfl ?_
            refine RW.assign rfl rfl ?_
            refine RW.assign rfl rfl ?_
            refine RW.nil (EX.seq (CW.seq (CW.region ?_)))
            refine RW.move rfl rfl ?_
            refine RW.nil (EX.seq ?_)
            -- mq: cond
            first | refine CW.condD rfl (fun hab => ?_) (fun hab => ?_) | refine CW.cond rfl (fun hab => ?_) (fun hab => ?_)
            · skip
              rw [Bool.and_eq_true, decide_eq_true_eq, decide_eq_true_eq] at hab
              have hn2 := hn hab.1 hab.2
              have hnx := hnf hab.1 hab.2
              rw [hnx] at hst
              dsimp only at hst
              refine CW.seq (CW.region ?_)
              refine RW.move rfl rfl ?_
              refine RW.move rfl rfl ?_
              refine RW.buildSlc sl56 rfl rfl rfl rfl (fun g37 hg37 hf37 => ?_)
              refine RW.append1 sl56 rfl rfl rfl (by first | exact Rem.head | exact Rem.tail Rem.head | exact Rem.tail (Rem.tail Rem.head) | exact Rem.tail (Rem.tail (Rem.tail Rem.head)) | exact Rem.tail (Rem.tail (Rem.tail (Rem.tail Rem.head))) | exact Rem.tail (Rem.tail (Rem.tail (Rem.tail (Rem.tail Rem.head)))) | exact Rem.tail (Rem.tail (Rem.tail (Rem.tail (Rem.tail (Rem.tail Rem.head)))))) (fun _ => by first | exact Upd.head | exact Upd.tail Upd.head | exact Upd.tail (Upd.tail Upd.head) | exact Upd.tail (Upd.tail (Upd.tail Upd.head)) | exact Upd.tail (Upd.tail (Upd.tail (Upd.tail Upd.head))) | exact Upd.tail (Upd.tail (Upd.tail (Upd.tail (Upd.tail Upd.head)))) | exact Upd.tail (Upd.tail (Upd.tail (Upd.tail (Upd.tail (Upd.tail Upd.head)))))) rfl (by repeat (first | exact Ones.nil | exact Enc.ones _ _ | refine Ones.cons rfl ?_)) (by simp only [maxLen]; omega) (by omega) (fun v38 hv38 => ?_)
              refine RW.assign rfl rfl ?_
              refine RW.nil (EX.seq (CW.seq (CW.region ?_)))
              refine RW.move rfl rfl ?_
              refine RW.add rfl rfl rfl (wrap64 (by omega) (by omega)) ?_
              refine RW.assign rfl rfl ?_
              refine RW.nil (EX.seq (CW.exit (EX.seqE (EX.bkE (EX.seq (CW.region ?_))))))
              refine RW.move rfl rfl ?_
              refine RW.add rfl rfl rfl (wrap64 (by omega) (by omega)) ?_
              refine RW.assign rfl rfl ?_
              refine RW.nil ?_
              -- mq: loopend
              refine EX.lpN (i + 4, v38, O ++ [twoU a b]) ⟨by dsimp only; omega, by dsimp only; simp; omega, by rw [hsp, hst]; simp⟩ (by dsimp only; omega) (by repeat (first | exact Sub.nil | refine Sub.cons (by rfl) ?_)) (fun w' hw' => ?_)
              dsimp only
              rw [Enc.all_snoc EU8, List.length_append]
              rw [hn2] at hw'
              exact hw'.unbase hx12 hcv
            · skip
              have hnx := hno (fun h => by rw [decide_eq_true h.2.2.1, decide_eq_true h.2.2.2] at hab; cases hab)
              rw [hhd] at hnx
              have hun := hone v w hnx
              refine CW.skip (EX.seq ?_)
              -- mq: region
              refine CW.region ?_
              refine RW.move rfl rfl ?_
              refine RW.move rfl rfl ?_
              refine RW.move rfl rfl ?_
              refine RW.ixStr (q := i) Tryd.underlying9 rfl rfl rfl (by omega) hc ?_
              refine RW.buildSlc sl56 rfl rfl rfl rfl (fun g45 hg45 hf45 => ?_)
              refine RW.append1 sl56 rfl rfl rfl (by first | exact Rem.head | exact Rem.tail Rem.head | exact Rem.tail (Rem.tail Rem.head) | exact Rem.tail (Rem.tail (Rem.tail Rem.head)) | exact Rem.tail (Rem.tail (Rem.tail (Rem.tail Rem.head))) | exact Rem.tail (Rem.tail (Rem.tail (Rem.tail (Rem.tail Rem.head)))) | exact Rem.tail (Rem.tail (Rem.tail (Rem.tail (Rem.tail (Rem.tail Rem.head)))))) (fun _ => by first | exact Upd.head | exact Upd.tail Upd.head | exact Upd.tail (Upd.tail Upd.head) | exact Upd.tail (Upd.tail (Upd.tail Upd.head)) | exact Upd.tail (Upd.tail (Upd.tail (Upd.tail Upd.head))) | exact Upd.tail (Upd.tail (Upd.tail (Upd.tail (Upd.tail Upd.head)))) | exact Upd.tail (Upd.tail (Upd.tail (Upd.tail (Upd.tail (Upd.tail Upd.head)))))) rfl (by repeat (first | exact Ones.nil | exact Enc.ones _ _ | refine Ones.cons rfl ?_)) (by simp only [maxLen]; omega) (by omega) (fun v46 hv46 => ?_)
              refine RW.assign rfl rfl ?_
              refine RW.nil (EX.bkN (EX.seq (CW.region ?_)))
              refine RW.move rfl rfl ?_
              refine RW.add rfl rfl rfl (wrap64 (by omega) (by omega)) ?_
              refine RW.assign rfl rfl ?_
              refine RW.nil ?_
              -- mq: loopend
              refine EX.lpN (i + 1, v46, O ++ [c]) ⟨by dsimp only; omega, by dsimp only; simp; omega, hun⟩ (by dsimp only; omega) (by repeat (first | exact Sub.nil | refine Sub.cons (by rfl) ?_)) (fun w' hw' => ?_)
              dsimp only
              rw [Enc.all_snoc EU8, List.length_append]
              exact hw'.unbase hx12 hcv
          · skip
            have hnx := nextE_one (s := s.drop i) h2 (fun h => h4 (by have := h.2.1; omega))
            rw [hhd] at hnx
            have hun := hone v w hnx
            refine CW.skip (EX.seq ?_)
            -- mq: region
            refine CW.region ?_
            refine RW.move rfl rfl ?_
            refine RW.move rfl rfl ?_
            refine RW.move rfl rfl ?_
            refine RW.ixStr (q := i) Tryd.underlying9 rfl rfl rfl (by omega) hc ?_
            refine RW.buildSlc sl56 rfl rfl rfl rfl (fun g45 hg45 hf45 => ?_)
            refine RW.append1 sl56 rfl rfl rfl (by first | exact Rem.head | exact Rem.tail Rem.head | exact Rem.tail (Rem.tail Rem.head) | exact Rem.tail (Rem.tail (Rem.tail Rem.head)) | exact Rem.tail (Rem.tail (Rem.tail (Rem.tail Rem.head))) | exact Rem.tail (Rem.tail (Rem.tail (Rem.tail (Rem.tail Rem.head)))) | exact Rem.tail (Rem.tail (Rem.tail (Rem.tail (Rem.tail (Rem.tail Rem.head)))))) (fun _ => by first | exact Upd.head | exact Upd.tail Upd.head | exact Upd.tail (Upd.tail Upd.head) | exact Upd.tail (Upd.tail (Upd.tail Upd.head)) | exact Upd.tail (Upd.tail (Upd.tail (Upd.tail Upd.head))) | exact Upd.tail (Upd.tail (Upd.tail (Upd.tail (Upd.tail Upd.head)))) | exact Upd.tail (Upd.tail (Upd.tail (Upd.tail (Upd.tail (Upd.tail Upd.head)))))) rfl (by repeat (first | exact Ones.nil | exact Enc.ones _ _ | refine Ones.cons rfl ?_)) (by simp only [maxLen]; omega) (by omega) (fun v46 hv46 => ?_)
            refine RW.assign rfl rfl ?_
            refine RW.nil (EX.bkN (EX.seq (CW.region ?_)))
            refine RW.move rfl rfl ?_
            refine RW.add rfl rfl rfl (wrap64 (by omega) (by omega)) ?_
            refine RW.assign rfl rfl ?_
            refine RW.nil ?_
            -- mq: loopend
            refine EX.lpN (i + 1, v46, O ++ [c]) ⟨by dsimp only; omega, by dsimp only; simp; omega, hun⟩ (by dsimp only; omega) (by repeat (first | exact Sub.nil | refine Sub.cons (by rfl) ?_)) (fun w' hw' => ?_)
            dsimp only
            rw [Enc.all_snoc EU8, List.length_append]
            exact hw'
        · skip
          have hnx := nextE_one (s := s.drop i) h2 (fun h => by rw [hasP_two.2 h.1] at hx; cases hx)
          rw [hhd] at hnx
          have hun := hone v w hnx
          refine RW.guardF rfl rfl rfl hx ?_
          refine RW.guardF rfl rfl rfl hx ?_
          refine RW.guardF rfl rfl rfl hx ?_
          refine RW.pickC rfl rfl hx rfl ?_
          refine RW.nil (EX.seq ?_)
          -- mq: cond
          refine CW.condF rfl (rfl) ?_
          refine CW.skip (EX.seq ?_)
          -- mq: region
          refine CW.region ?_
          refine RW.move rfl rfl ?_
          refine RW.move rfl rfl ?_
          refine RW.move rfl rfl ?_
          refine RW.ixStr (q := i) Tryd.underlying9 rfl rfl rfl (by omega) hc ?_
          refine RW.buildSlc sl56 rfl rfl rfl rfl (fun g45 hg45 hf45 => ?_)
          refine RW.append1 sl56 rfl rfl rfl (by first | exact Rem.head | exact Rem.tail Rem.head | exact Rem.tail (Rem.tail Rem.head) | exact Rem.tail (Rem.tail (Rem.tail Rem.head)) | exact Rem.tail (Rem.tail (Rem.tail (Rem.tail Rem.head))) | exact Rem.tail (Rem.tail (Rem.tail (Rem.tail (Rem.tail Rem.head)))) | exact Rem.tail (Rem.tail (Rem.tail (Rem.tail (Rem.tail (Rem.tail Rem.head)))))) (fun _ => by first | exact Upd.head | exact Upd.tail Upd.head | exact Upd.tail (Upd.tail Upd.head) | exact Upd.tail (Upd.tail (Upd.tail Upd.head)) | exact Upd.tail (Upd.tail (Upd.tail (Upd.tail Upd.head))) | exact Upd.tail (Upd.tail (Upd.tail (Upd.tail (Upd.tail Upd.head)))) | exact Upd.tail (Upd.tail (Upd.tail (Upd.tail (Upd.tail (Upd.tail Upd.head)))))) rfl (by repeat (first | exact Ones.nil | exact Enc.ones _ _ | refine Ones.cons rfl ?_)) (by simp only [maxLen]; omega) (by omega) (fun v46 hv46 => ?_)
          refine RW.assign rfl rfl ?_
          refine RW.nil (EX.bkN (EX.seq (CW.region ?_)))
          refine RW.move rfl rfl ?_
          refine RW.add rfl rfl rfl (wrap64 (by omega) (by omega)) ?_
          refine RW.assign rfl rfl ?_
          refine RW.nil ?_
          -- mq: loopend
          refine EX.lpN (i + 1, v46, O ++ [c]) ⟨by dsimp only; omega, by dsimp only; simp; omega, hun⟩ (by dsimp only; omega) (by repeat (first | exact Sub.nil | refine Sub.cons (by rfl) ?_)) (fun w' hw' => ?_)
          dsimp only
          rw [Enc.all_snoc EU8, List.length_append]
          exact hw'
    · skip
      have hil : i = s.length := by omega
      rw [hil, List.drop_length, unescF_nil, List.append_nil] at hsp
      refine CW.formOwn (v := v) Has.head (fun A4 c4 hv4 hcap4 hmax4 hlen4 hg4 => ?_)
      subst hv4
      refine CW.exit (EX.seqE (EX.lpE (EX.bkE (EX.seq (CW.seq (CW.region ?_))))))
      refine RW.move rfl rfl ?_
      -- mq: op 1: ('Op.convert', '56', '9', ('Operand.tmp', '47')) -> slot 48 ("osc.go:80")
      refine RW.bytesStr (s := O) (F := fun k => (Value.slice A4 O.length c4).ownBlock = some k) Tryd.underlying56 Tryd.underlying5 Tryd.underlying9 rfl rfl (fun w' hw' => ?_) ?_
      · obtain ⟨A6, c6, he6, hrd6⟩ := Rd.of_own (E := EU8) (hw'.has Has.head) rfl
        cases he6
        exact hrd6
      refine RW.assign rfl rfl ?_
      refine RW.nil (EX.seq (CW.ret ?_))
      refine EX.fin1 Tryd.results16 rfl (fun wz hw => ?_)
      -- mq: done
      exact ⟨by rw [hsp], hw.ext⟩
def hexS : List UInt8 := [48, 49, 50, 51, 52, 53, 54, 55, 56, 57, 97, 98, 99, 100, 101, 102]
theorem hexS_at : ∀ k, k < 16 → hexS[k]? = some (hexDig k) := by decide
theorem and15 (c : UInt8) : IntKind.u8.wrap ((BitVec.ofInt IntKind.u8.bits (c.toNat : Int) &&& BitVec.ofInt IntKind.u8.bits 15).toNat : Int) = ((c.toNat % 16 : Nat) : Int) := by
  have hc := UInt8.toNat_lt c
  refine and_eq (m := c.toNat) (n := 15) rfl rfl (by simp only [IntKind.bits]; omega) (by decide) ?_
  rw [show c.toNat &&& 15 = c.toNat % 16 from Nat.and_two_pow_sub_one_eq_mod c.toNat 4, IntKind.wrap_u8]
  omega
theorem Escape_c (w : World) (s : List UInt8) (hs : s.length ≤ 1000000) :
    Calls Tryd.prog 14 [.string (bs s)].toArray w (fun e w' => e = .returned (.string (bs (escF s))) ∧ Ext [] w w') := by
  refine calls (n := 45) Tryd.func14 rfl Tryd.ntmps14 rfl ?_
  refine CW.sub (H' := SH w [] []) ?_ (Sub.refl _) (fun x hx => SH.start' _ _ hx)
  refine CW.seq (CW.region ?_)
  refine RW.assign rfl rfl ?_
  refine RW.nil (EX.seq (CW.seq ?_))
  -- mq: region
  refine CW.ownNil 5 1 ?_
  refine CW.region ?_
  refine RW.assign rfl rfl ?_
  refine RW.nil (EX.seq (CW.seq (CW.seq (CW.region ?_))))
  refine RW.assign rfl rfl ?_
  refine RW.nil (EX.seq (CW.block ?_))
  -- mq: loop
  refine CW.loop (ι := Nat × Value) (fun t => [(0, .string (bs s)), (3, t.2), (4, .int .i64 (t.1 : Int))]) (fun t => SH w [] [own 5 1 t.2 (escF (s.take t.1)).length (EU8.all (escF (s.take t.1)))]) (fun t => t.1 ≤ s.length) (fun t => s.length - t.1) ?_ ?_
  · exact fun w' hw' => ⟨(0, _), Nat.zero_le _, (by repeat (first | exact Sub.nil | refine Sub.cons (by rfl) ?_)), hw'⟩
  · rintro ⟨i, v⟩ hi
    dsimp only at hi ⊢
    have hel := escF_len (s.take i)
    rw [List.length_take] at hel
    refine CW.seq (CW.seq (CW.region ?_))
    refine RW.move rfl rfl ?_
    refine RW.move rfl rfl ?_
    refine RW.lenS Tryd.underlying9 rfl rfl ?_
    refine RW.lss rfl rfl rfl ?_
    refine RW.nil (EX.seq ?_)
    -- mq: cond
    first | refine CW.condD rfl (fun hlt => ?_) (fun hlt => ?_) | refine CW.cond rfl (fun hlt => ?_) (fun hlt => ?_)
    · skip
      obtain ⟨c, hc⟩ : ∃ c, s[i]? = some c := ⟨s[i]'(by omega), List.getElem?_eq_getElem _⟩
      have hc8 := UInt8.toNat_lt c
      have hsn : escF (s.take (i + 1)) = escF (s.take i) ++ escB c := by rw [List.take_add_one, hc, Option.toList_some, escF_snoc]
      generalize escF (s.take i) = O at *
      refine CW.skip (EX.seq (CW.seq (CW.block (CW.seq (CW.region ?_)))))
      refine RW.move rfl rfl ?_
      refine RW.move rfl rfl ?_
      refine RW.ixStr (q := i) Tryd.underlying9 rfl rfl rfl (by omega) hc ?_
      refine RW.assign rfl rfl ?_
      refine RW.nil (EX.seq (CW.block (CW.seq (CW.region ?_))))
      refine RW.move rfl rfl ?_
      refine RW.eqlI rfl rfl rfl ?_
      refine RW.assign rfl rfl ?_
      refine RW.nil (EX.seq ?_)
      -- mq: cond
      first | refine CW.condD rfl (fun h92 => ?_) (fun h92 => ?_) | refine CW.cond rfl (fun h92 => ?_) (fun h92 => ?_)
      · skip
        have hb : escB c = [92, 92] := by unfold escB; rw [if_pos (UInt8.toNat_inj.1 (by have : (92 : UInt8).toNat = 92 := rfl; omega))]
        have hc92 : c = 92 := UInt8.toNat_inj.1 (by have : (92 : UInt8).toNat = 92 := rfl; omega)
        subst hc92
        refine CW.region ?_
        refine RW.move rfl rfl ?_
        refine RW.move rfl rfl ?_
        refine RW.move rfl rfl ?_
        refine RW.buildSlc sl56 rfl rfl rfl rfl (fun g25 hg25 hf25 => ?_)
        refine RW.append1 sl56 rfl rfl rfl (by first | exact Rem.head | exact Rem.tail Rem.head | exact Rem.tail (Rem.tail Rem.head) | exact Rem.tail (Rem.tail (Rem.tail Rem.head)) | exact Rem.tail (Rem.tail (Rem.tail (Rem.tail Rem.head))) | exact Rem.tail (Rem.tail (Rem.tail (Rem.tail (Rem.tail Rem.head)))) | exact Rem.tail (Rem.tail (Rem.tail (Rem.tail (Rem.tail (Rem.tail Rem.head)))))) (fun _ => by first | exact Upd.head | exact Upd.tail Upd.head | exact Upd.tail (Upd.tail Upd.head) | exact Upd.tail (Upd.tail (Upd.tail Upd.head)) | exact Upd.tail (Upd.tail (Upd.tail (Upd.tail Upd.head))) | exact Upd.tail (Upd.tail (Upd.tail (Upd.tail (Upd.tail Upd.head)))) | exact Upd.tail (Upd.tail (Upd.tail (Upd.tail (Upd.tail (Upd.tail Upd.head)))))) rfl (by repeat (first | exact Ones.nil | exact Enc.ones _ _ | refine Ones.cons rfl ?_)) (by simp only [maxLen]; omega) (by omega) (fun v26 hv26 => ?_)
        refine RW.assign rfl rfl ?_
        refine RW.nil (EX.bkN (EX.bkN (EX.seq (CW.region ?_))))
        refine RW.move rfl rfl ?_
        refine RW.add rfl rfl rfl (wrap64 (by omega) (by omega)) ?_
        refine RW.assign rfl rfl ?_
        refine RW.nil ?_
        -- mq: loopend
        refine EX.lpN (i + 1, v26) (by dsimp only; omega) (by dsimp only; omega) (by repeat (first | exact Sub.nil | refine Sub.cons (by rfl) ?_)) (fun w' hw' => ?_)
        dsimp only
        rw [hsn, hb, Enc.all_append EU8, List.length_append]
        exact hw'
      · skip
        have hn92 : c ≠ 92 := fun e => h92 (by rw [e]; rfl)
        have hesc : c.toNat ≤ 32 ∨ c = 59 → escB c = [92, 120, hexDig (c.toNat / 16), hexDig (c.toNat % 16)] := fun h => by unfold escB; rw [if_neg hn92, if_pos h]
        refine CW.seq (CW.region ?_)
        refine RW.move rfl rfl ?_
        refine RW.leq rfl rfl rfl ?_
        refine RW.move rfl rfl ?_
        -- mq: guard slot 30
        refine RW.casesB 30 rfl (fun h32 => ?_) (fun h32 => ?_)
        · skip
          have h32p := of_decide_eq_true h32
          have hb := hesc (.inl (by omega))
          refine RW.guardF rfl rfl rfl h32 ?_
          refine RW.guardF rfl rfl rfl h32 ?_
          refine RW.pickB rfl rfl h32 rfl ?_
          refine RW.assign rfl rfl ?_
          refine RW.nil (EX.seq ?_)
          -- mq: cond
          refine CW.condT rfl (rfl) ?_
          -- mq: region
          refine CW.drawU [0, 1, 2, 3, 4, 5, 6] 2 [[(7, false, []), (8, false, [9])]] (fun _ => True) mixed (by kernel_rfl) (fun _ hw => hw.drew) (fun _ h => (by first | trivial | exact h | exact h.ch | exact (h.rem Rem.head).ch | exact ((h.rem Rem.head).rem Rem.head).ch | exact (((h.rem Rem.head).rem Rem.head).rem Rem.head).ch)) ?_
          refine QuP.cons rfl (fun wq hq => (RW.move rfl rfl RW.jn)) ?_
          refine QuP.cons rfl (fun wq hq => (RW.move rfl rfl RW.jn)) ?_
          refine QuP.cons rfl (fun wq hq => (RW.shrN (r := (c.toNat : Int) / 16) rfl rfl rfl (by decide) (by rfl) RW.jn)) ?_
          refine QuP.cons rfl (fun wq hq => (RW.ixStr (q := c.toNat / 16) Tryd.underlying9 rfl rfl rfl (by omega) (hexS_at (c.toNat / 16) (by omega)) RW.jn)) ?_
          refine QuP.cons rfl (fun wq hq => (RW.move rfl rfl RW.jn)) ?_
          refine QuP.cons rfl (fun wq hq => (RW.and_ (r := ((c.toNat % 16 : Nat) : Int)) rfl rfl rfl (and15 c) RW.jn)) ?_
          refine QuP.cons rfl (fun wq hq => (RW.ixStr (q := c.toNat % 16) Tryd.underlying9 rfl rfl rfl (by omega) (hexS_at (c.toNat % 16) (by omega)) RW.jn)) ?_
          refine QuP.nil ?_
          refine UW.step [_] rfl (List.forall_mem_cons.2 ⟨?_, by simp⟩)
          refine RW.buildSlc sl56 rfl rfl rfl rfl (fun g41 hg41 hf41 => ?_)
          refine RW.st (fun _ => True) (fun _ h => .inr (by first | trivial | exact h | exact h.ch | exact (h.rem Rem.head).ch | exact ((h.rem Rem.head).rem Rem.head).ch | exact (((h.rem Rem.head).rem Rem.head).rem Rem.head).ch)) (fun _ h => trivial) ?_
          refine QuP.nil ?_
          refine UW.step [_] rfl (List.forall_mem_cons.2 ⟨?_, by simp⟩)
          refine RW.append1 sl56 rfl rfl rfl (by first | exact Rem.head | exact Rem.tail Rem.head | exact Rem.tail (Rem.tail Rem.head) | exact Rem.tail (Rem.tail (Rem.tail Rem.head)) | exact Rem.tail (Rem.tail (Rem.tail (Rem.tail Rem.head))) | exact Rem.tail (Rem.tail (Rem.tail (Rem.tail (Rem.tail Rem.head)))) | exact Rem.tail (Rem.tail (Rem.tail (Rem.tail (Rem.tail (Rem.tail Rem.head)))))) (fun _ => by first | exact Upd.head | exact Upd.tail Upd.head | exact Upd.tail (Upd.tail Upd.head) | exact Upd.tail (Upd.tail (Upd.tail Upd.head)) | exact Upd.tail (Upd.tail (Upd.tail (Upd.tail Upd.head))) | exact Upd.tail (Upd.tail (Upd.tail (Upd.tail (Upd.tail Upd.head)))) | exact Upd.tail (Upd.tail (Upd.tail (Upd.tail (Upd.tail (Upd.tail Upd.head)))))) rfl (by repeat (first | exact Ones.nil | exact Enc.ones _ _ | refine Ones.cons rfl ?_)) (by simp only [maxLen]; omega) (by omega) (fun v42 hv42 => ?_)
          refine RW.st (fun _ => True) (fun _ h => .inr ⟨.inr (by first | trivial | exact h | exact h.ch | exact (h.rem Rem.head).ch | exact ((h.rem Rem.head).rem Rem.head).ch | exact (((h.rem Rem.head).rem Rem.head).rem Rem.head).ch), trivial⟩) (fun _ h => trivial) ?_
          refine QuP.cons rfl (fun wq hq => (RW.assign rfl rfl RW.jn)) ?_
          refine QuP.nil ?_
          refine UW.nil (EX.bkN (EX.bkN (EX.seq (CW.region ?_))))
          refine RW.move rfl rfl ?_
          refine RW.add rfl rfl rfl (wrap64 (by omega) (by omega)) ?_
          refine RW.assign rfl rfl ?_
          refine RW.nil ?_
          -- mq: loopend
          refine EX.lpN (i + 1, v42) (by dsimp only; omega) (by dsimp only; omega) (by repeat (first | exact Sub.nil | refine Sub.cons (by rfl) ?_)) (fun w' hw' => ?_)
          dsimp only
          rw [hsn, hb, Enc.all_append EU8, List.length_append]
          exact hw'
        · skip
          have h32p := of_decide_eq_false h32
          refine RW.guardT rfl rfl h32 ?_
          refine RW.move rfl rfl ?_
          refine RW.guardT rfl rfl h32 ?_
          refine RW.eqlI rfl rfl rfl ?_
          refine RW.pickC rfl rfl h32 rfl ?_
          refine RW.assign rfl rfl ?_
          refine RW.nil (EX.seq ?_)
          -- mq: cond
          first | refine CW.condD rfl (fun h59 => ?_) (fun h59 => ?_) | refine CW.cond rfl (fun h59 => ?_) (fun h59 => ?_)
          · skip
            have hb := hesc (.inr (UInt8.toNat_inj.1 (by have : (59 : UInt8).toNat = 59 := rfl; omega)))
            -- mq: region
            refine CW.drawU [0, 1, 2, 3, 4, 5, 6] 2 [[(7, false, []), (8, false, [9])]] (fun _ => True) mixed (by kernel_rfl) (fun _ hw => hw.drew) (fun _ h => (by first | trivial | exact h | exact h.ch | exact (h.rem Rem.head).ch | exact ((h.rem Rem.head).rem Rem.head).ch | exact (((h.rem Rem.head).rem Rem.head).rem Rem.head).ch)) ?_
            refine QuP.cons rfl (fun wq hq => (RW.move rfl rfl RW.jn)) ?_
            refine QuP.cons rfl (fun wq hq => (RW.move rfl rfl RW.jn)) ?_
            refine QuP.cons rfl (fun wq hq => (RW.shrN (r := (c.toNat : Int) / 16) rfl rfl rfl (by decide) (by rfl) RW.jn)) ?_
            refine QuP.cons rfl (fun wq hq => (RW.ixStr (q := c.toNat / 16) Tryd.underlying9 rfl rfl rfl (by omega) (hexS_at (c.toNat / 16) (by omega)) RW.jn)) ?_
            refine QuP.cons rfl (fun wq hq => (RW.move rfl rfl RW.jn)) ?_
            refine QuP.cons rfl (fun wq hq => (RW.and_ (r := ((c.toNat % 16 : Nat) : Int)) rfl rfl rfl (and15 c) RW.jn)) ?_
            refine QuP.cons rfl (fun wq hq => (RW.ixStr (q := c.toNat % 16) Tryd.underlying9 rfl rfl rfl (by omega) (hexS_at (c.toNat % 16) (by omega)) RW.jn)) ?_
            refine QuP.nil ?_
            refine UW.step [_] rfl (List.forall_mem_cons.2 ⟨?_, by simp⟩)
            refine RW.buildSlc sl56 rfl rfl rfl rfl (fun g41 hg41 hf41 => ?_)
            refine RW.st (fun _ => True) (fun _ h => .inr (by first | trivial | exact h | exact h.ch | exact (h.rem Rem.head).ch | exact ((h.rem Rem.head).rem Rem.head).ch | exact (((h.rem Rem.head).rem Rem.head).rem Rem.head).ch)) (fun _ h => trivial) ?_
            refine QuP.nil ?_
            refine UW.step [_] rfl (List.forall_mem_cons.2 ⟨?_, by simp⟩)
            refine RW.append1 sl56 rfl rfl rfl (by first | exact Rem.head | exact Rem.tail Rem.head | exact Rem.tail (Rem.tail Rem.head) | exact Rem.tail (Rem.tail (Rem.tail Rem.head)) | exact Rem.tail (Rem.tail (Rem.tail (Rem.tail Rem.head))) | exact Rem.tail (Rem.tail (Rem.tail (Rem.tail (Rem.tail Rem.head)))) | exact Rem.tail (Rem.tail (Rem.tail (Rem.tail (Rem.tail (Rem.tail Rem.head)))))) (fun _ => by first | exact Upd.head | exact Upd.tail Upd.head | exact Upd.tail (Upd.tail Upd.head) | exact Upd.tail (Upd.tail (Upd.tail Upd.head)) | exact Upd.tail (Upd.tail (Upd.tail (Upd.tail Upd.head))) | exact Upd.tail (Upd.tail (Upd.tail (Upd.tail (Upd.tail Upd.head)))) | exact Upd.tail (Upd.tail (Upd.tail (Upd.tail (Upd.tail (Upd.tail Upd.head)))))) rfl (by repeat (first | exact Ones.nil | exact Enc.ones _ _ | refine Ones.cons rfl ?_)) (by simp only [maxLen]; omega) (by omega) (fun v42 hv42 => ?_)
            refine RW.st (fun _ => True) (fun _ h => .inr ⟨.inr (by first | trivial | exact h | exact h.ch | exact (h.rem Rem.head).ch | exact ((h.rem Rem.head).rem Rem.head).ch | exact (((h.rem Rem.head).rem Rem.head).rem Rem.head).ch), trivial⟩) (fun _ h => trivial) ?_
            refine QuP.cons rfl (fun wq hq => (RW.assign rfl rfl RW.jn)) ?_
            refine QuP.nil ?_
            refine UW.nil (EX.bkN (EX.bkN (EX.seq (CW.region ?_))))
            refine RW.move rfl rfl ?_
            refine RW.add rfl rfl rfl (wrap64 (by omega) (by omega)) ?_
            refine RW.assign rfl rfl ?_
            refine RW.nil ?_
            -- mq: loopend
            refine EX.lpN (i + 1, v42) (by dsimp only; omega) (by dsimp only; omega) (by repeat (first | exact Sub.nil | refine Sub.cons (by rfl) ?_)) (fun w' hw' => ?_)
            dsimp only
            rw [hsn, hb, Enc.all_append EU8, List.length_append]
            exact hw'
          · skip
            have hb : escB c = [c] := by
              unfold escB
              rw [if_neg hn92, if_neg]
              rintro (h | h)
              · omega
              · exact h59 (by rw [h]; rfl)
            refine CW.region ?_
            refine RW.move rfl rfl ?_
            refine RW.move rfl rfl ?_
            refine RW.buildSlc sl56 rfl rfl rfl rfl (fun g17 hg17 hf17 => ?_)
            refine RW.append1 sl56 rfl rfl rfl (by first | exact Rem.head | exact Rem.tail Rem.head | exact Rem.tail (Rem.tail Rem.head) | exact Rem.tail (Rem.tail (Rem.tail Rem.head)) | exact Rem.tail (Rem.tail (Rem.tail (Rem.tail Rem.head))) | exact Rem.tail (Rem.tail (Rem.tail (Rem.tail (Rem.tail Rem.head)))) | exact Rem.tail (Rem.tail (Rem.tail (Rem.tail (Rem.tail (Rem.tail Rem.head)))))) (fun _ => by first | exact Upd.head | exact Upd.tail Upd.head | exact Upd.tail (Upd.tail Upd.head) | exact Upd.tail (Upd.tail (Upd.tail Upd.head)) | exact Upd.tail (Upd.tail (Upd.tail (Upd.tail Upd.head))) | exact Upd.tail (Upd.tail (Upd.tail (Upd.tail (Upd.tail Upd.head)))) | exact Upd.tail (Upd.tail (Upd.tail (Upd.tail (Upd.tail (Upd.tail Upd.head)))))) rfl (by repeat (first | exact Ones.nil | exact Enc.ones _ _ | refine Ones.cons rfl ?_)) (by simp only [maxLen]; omega) (by omega) (fun v18 hv18 => ?_)
            refine RW.assign rfl rfl ?_
            refine RW.nil (EX.bkN (EX.bkN (EX.seq (CW.region ?_))))
            refine RW.move rfl rfl ?_
            refine RW.add rfl rfl rfl (wrap64 (by omega) (by omega)) ?_
            refine RW.assign rfl rfl ?_
            refine RW.nil ?_
            -- mq: loopend
            refine EX.lpN (i + 1, v18) (by dsimp only; omega) (by dsimp only; omega) (by repeat (first | exact Sub.nil | refine Sub.cons (by rfl) ?_)) (fun w' hw' => ?_)
            dsimp only
            rw [hsn, hb, Enc.all_append EU8, List.length_append]
            exact hw'
    · skip
      have hil : i = s.length := by omega
      rw [hil, List.take_length] at *
      refine CW.formOwn (v := v) Has.head (fun A4 c4 hv4 hcap4 hmax4 hlen4 hg4 => ?_)
      subst hv4
      refine CW.exit (EX.seqE (EX.lpE (EX.bkE (EX.seq (CW.seq (CW.region ?_))))))
      refine RW.move rfl rfl ?_
      -- mq: op 1: ('Op.convert', '56', '9', ('Operand.tmp', '43')) -> slot 44 ("osc.go:98")
      refine RW.bytesStr (s := escF s) (F := fun k => (Value.slice A4 (escF s).length c4).ownBlock = some k) Tryd.underlying56 Tryd.underlying5 Tryd.underlying9 rfl rfl (fun w' hw' => ?_) ?_
      · obtain ⟨A6, c6, he6, hrd6⟩ := Rd.of_own (E := EU8) (hw'.has Has.head) rfl
        cases he6
        exact hrd6
      refine RW.assign rfl rfl ?_
      refine RW.nil (EX.seq (CW.ret ?_))
      refine EX.fin1 Tryd.results14 rfl (fun wz hw => ?_)
      -- mq: done
      exact ⟨rfl, hw.ext⟩
end Go.Proofs.YtemcblinkicblaaDoor.Mq
