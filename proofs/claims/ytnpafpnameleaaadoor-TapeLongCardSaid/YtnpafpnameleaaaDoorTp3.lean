/- tape: Line -/
import Derived.Test.YtnpafpnameleaaaDoorTp2
import Derived.Test.YtnpafpnameleaaaDoorJoin
namespace Go.Proofs.YtnpafpnameleaaaDoor.Mq
open Go Go.RowKit Go.Proofs

theorem joinLe {B : Nat} : ∀ L : List (List UInt8), (∀ x ∈ L, x.length ≤ B) → (Lib.join L [32]).length ≤ L.length * (B + 1)
  | [], _ => Nat.zero_le _
  | [x], h => by rw [Lib.join_one]; have := h x (by simp); simp; omega
  | x :: y :: r, h => by
    have h1 := h x (by simp)
    have ih := joinLe (y :: r) (fun z hz => h z (by simp [hz]))
    rw [joinTwo, List.length_append, List.length_cons, List.length_cons (a := x), Nat.add_mul]; omega
theorem itoa_len {n : Int} (h : In64 n) : (Lib.itoa n).length ≤ 21 := Lib.itoa_length_le n h.1 h.2
theorem wordsK_len : ∀ k, k < 7 → (wordsK.getD k []).length ≤ 6 := by decide
def wI (k : Nat) (a b : Int) : Nat → List (List UInt8)
  | 0 => [wordsK.getD k []]
  | 1 => wordsK.getD k [] :: (if 1 ≤ numsK k then [Lib.itoa a] else [])
  | _ => wordsK.getD k [] :: ((if 1 ≤ numsK k then [Lib.itoa a] else []) ++ (if 2 ≤ numsK k then [Lib.itoa b] else []))
theorem wI_len (k : Nat) (a b : Int) (i : Nat) : (wI k a b i).length ≤ 3 := by
  rcases i with _ | _ | i
  · exact (by decide : 1 ≤ 3)
  · show (_ :: (if 1 ≤ numsK k then [Lib.itoa a] else [])).length ≤ 3
    split <;> simp
  · show (_ :: ((if 1 ≤ numsK k then [Lib.itoa a] else []) ++ (if 2 ≤ numsK k then [Lib.itoa b] else []))).length ≤ 3
    split <;> split <;> simp
theorem wI_mem {k : Nat} (hk : k < 7) {a b : Int} (ha : In64 a) (hb : In64 b) : ∀ x ∈ wI k a b 2, x.length ≤ 21 := by
  intro x hx
  have h1 := wordsK_len k hk
  have h2 := itoa_len ha
  have h3 := itoa_len hb
  unfold wI at hx
  rcases List.mem_cons.1 hx with rfl | hx
  · omega
  rcases List.mem_append.1 hx with hx | hx
  · split at hx
    · rw [List.mem_singleton.1 hx]; exact h2
    · cases hx
  · split at hx
    · rw [List.mem_singleton.1 hx]; exact h3
    · cases hx
theorem wI_1 {k : Nat} (a b : Int) (h : 1 ≤ numsK k) : wI k a b 1 = wI k a b 0 ++ [Lib.itoa a] := by
  show _ :: (if 1 ≤ numsK k then [Lib.itoa a] else []) = _
  rw [if_pos h]; rfl
theorem wI_1n {k : Nat} (a b : Int) (h : ¬ 1 ≤ numsK k) : wI k a b 1 = wI k a b 0 := by
  show _ :: (if 1 ≤ numsK k then [Lib.itoa a] else []) = _
  rw [if_neg h]; rfl
theorem wI_2 {k : Nat} (a b : Int) (h : 2 ≤ numsK k) : wI k a b 2 = wI k a b 1 ++ [Lib.itoa b] := by
  show _ :: ((if 1 ≤ numsK k then [Lib.itoa a] else []) ++ (if 2 ≤ numsK k then [Lib.itoa b] else [])) = _
  rw [if_pos h]; rfl
theorem wI_2n {k : Nat} (a b : Int) (h : ¬ 2 ≤ numsK k) : wI k a b 2 = wI k a b 1 := by
  show _ :: ((if 1 ≤ numsK k then [Lib.itoa a] else []) ++ (if 2 ≤ numsK k then [Lib.itoa b] else [])) = _
  rw [if_neg h, List.append_nil]; rfl
theorem wI_t (k : Nat) (a b : Int) (d : List UInt8) (h : hasK k = true) : wordsS ⟨k, a, b, d⟩ = wI k a b 2 ++ [hexT d] := by
  show wordsK.getD k [] :: ((if 1 ≤ numsK k then [Lib.itoa a] else []) ++ ((if 2 ≤ numsK k then [Lib.itoa b] else []) ++ (if hasK k = true then [hexT d] else []))) = _ :: ((if 1 ≤ numsK k then [Lib.itoa a] else []) ++ (if 2 ≤ numsK k then [Lib.itoa b] else [])) ++ _
  rw [if_pos h, List.cons_append, List.append_assoc]
theorem wI_f (k : Nat) (a b : Int) (d : List UInt8) (h : hasK k = false) : wordsS ⟨k, a, b, d⟩ = wI k a b 2 := by
  show wordsK.getD k [] :: ((if 1 ≤ numsK k then [Lib.itoa a] else []) ++ ((if 2 ≤ numsK k then [Lib.itoa b] else []) ++ (if hasK k = true then [hexT d] else []))) = _ :: ((if 1 ≤ numsK k then [Lib.itoa a] else []) ++ (if 2 ≤ numsK k then [Lib.itoa b] else []))
  rw [if_neg (show ¬ hasK k = true by rw [h]; decide), List.append_nil]
def EKd : Enc Nat := ⟨fun k => kindV k, 3, fun _ => rfl, fun _ => by repeat (first | exact Ones.nil | refine Ones.cons rfl ?_)⟩
theorem kinds_all : kindsV = EKd.all (List.range 7) := by rfl
theorem range7 {k : Nat} (h : k < 7) : (List.range 7)[k]? = some k := by simp [h]
def lineV (x : StV) : Value := .tuple #[.string (bs (if okSt x = true then lineS x else [])), .int .i64 (if okSt x = true then 0 else 1)]
theorem lineV_no {x : StV} (h : ¬ okSt x = true) : lineV x = .tuple #[.string (bs []), .int .i64 1] := by rw [lineV, if_neg h, if_neg h]
theorem lineV_ok {x : StV} (h : okSt x = true) : lineV x = .tuple #[.string (bs (lineS x)), .int .i64 0] := by rw [lineV, if_pos h, if_pos h]
theorem okSt4 {k : Nat} {a b : Int} {d : List UInt8} : okSt ⟨(k : Int), a, b, d⟩ = true ↔ k ≤ 6 ∧ d.length ≤ 65536 ∧ (1 ≤ numsK k ∨ a = 0) ∧ (2 ≤ numsK k ∨ b = 0) ∧ (hasK k = true ∨ d = []) := by
  rw [okSt_iff]
  dsimp only
  rw [show ((k : Int)).toNat = k from rfl]
  constructor
  · rintro ⟨h1, h2⟩; exact ⟨by omega, h2⟩
  · rintro ⟨h1, h2⟩; exact ⟨by omega, h2⟩
theorem Line_c4 (w : World) (hg : Gl w) (kk a b : Int) (d : List UInt8) (ha : In64 a) (hb : In64 b) (hl : d.length ≤ 1000000) :
    Calls Tryd.prog 9 [.agg #[.int .i64 kk, .int .i64 a, .int .i64 b, .string (bs d)]].toArray w (fun e w' => e = .returned (lineV ⟨kk, a, b, d⟩) ∧ Ext [] w w') := by
  have hla := itoa_len ha
  have hlb := itoa_len hb
  refine calls (n := 70) Tryd.func9 rfl Tryd.ntmps9 rfl ?_
  refine CW.sub (H' := SH w [] []) ?_ (Sub.refl _) (fun x hx => SH.start' _ _ hx)
  refine CW.seq (CW.region ?_)
  refine RW.boxA rfl rfl (fun g1 hg1 hf1 => ?_)
  refine RW.assign rfl rfl ?_
  refine RW.assign rfl rfl ?_
  refine RW.nil (EX.seq (CW.seq ?_))
  -- mq: region
  refine CW.region ?_
  refine RW.call rfl ca18 rfl (fun w' _ => kinds_c w') ?_
  refine RW.allocA ag48 rfl (fun g4 hg4 hf4 => ?_)
  refine RW.storeA ag48 rfl rfl (by first | exact Upd.head | exact Upd.tail Upd.head | exact Upd.tail (Upd.tail Upd.head) | exact Upd.tail (Upd.tail (Upd.tail Upd.head)) | exact Upd.tail (Upd.tail (Upd.tail (Upd.tail Upd.head))) | exact Upd.tail (Upd.tail (Upd.tail (Upd.tail (Upd.tail Upd.head)))) | exact Upd.tail (Upd.tail (Upd.tail (Upd.tail (Upd.tail (Upd.tail Upd.head)))))) (by first | rfl | exact Enc.len _ _) (by repeat (first | exact Ones.nil | exact Enc.ones _ _ | refine Ones.cons rfl ?_)) (by first | exact Nat.le_of_ble_eq_true rfl | (simp only [Enc.len]; decide)) ?_
  refine RW.nil (EX.seq (CW.seq (CW.seq ?_)))
  -- mq: region
  refine CW.region ?_
  refine RW.fieldB fl23x0 rfl rfl ?_
  refine RW.loadB1 sc3 rfl rfl (by first | exact Has.head | exact Has.tail Has.head | exact Has.tail (Has.tail Has.head) | exact Has.tail (Has.tail (Has.tail Has.head)) | exact Has.tail (Has.tail (Has.tail (Has.tail Has.head))) | exact Has.tail (Has.tail (Has.tail (Has.tail (Has.tail Has.head)))) | exact Has.tail (Has.tail (Has.tail (Has.tail (Has.tail (Has.tail Has.head)))))) rfl ?_
  refine RW.lss rfl rfl rfl ?_
  refine RW.move rfl rfl ?_
  -- mq: guard slot 13
  refine RW.casesB 13 rfl (fun h1 => ?_) (fun h1 => ?_)
  · skip
    have h1p := of_decide_eq_true h1
    refine RW.guardF rfl rfl rfl h1 ?_
    refine RW.guardF rfl rfl rfl h1 ?_
    refine RW.guardF rfl rfl rfl h1 ?_
    refine RW.pickB rfl rfl h1 rfl ?_
    refine RW.nil (EX.seq ?_)
    -- mq: cond
    refine CW.condT rfl (rfl) ?_
    refine CW.seq (CW.region ?_)
    refine RW.assign rfl rfl ?_
    refine RW.assign rfl rfl ?_
    refine RW.nil (EX.seq (CW.ret (EX.seqR ?_)))
    refine EX.fin2 Tryd.results9 rfl rfl (fun wz hw => ?_)
    -- mq: done
    exact ⟨by rw [lineV_no (fun h => by have := (okSt_iff.1 h).1; dsimp only at this; omega)], hw.ext⟩
  · skip
    have h1p := of_decide_eq_false h1
    refine RW.guardT rfl rfl h1 ?_
    refine RW.fieldB fl23x0 rfl rfl ?_
    refine RW.guardT rfl rfl h1 ?_
    refine RW.loadB1 sc3 rfl rfl (by first | exact Has.head | exact Has.tail Has.head | exact Has.tail (Has.tail Has.head) | exact Has.tail (Has.tail (Has.tail Has.head)) | exact Has.tail (Has.tail (Has.tail (Has.tail Has.head))) | exact Has.tail (Has.tail (Has.tail (Has.tail (Has.tail Has.head)))) | exact Has.tail (Has.tail (Has.tail (Has.tail (Has.tail (Has.tail Has.head)))))) rfl ?_
    refine RW.guardT rfl rfl h1 ?_
    refine RW.geq rfl rfl rfl ?_
    refine RW.pickC rfl rfl h1 rfl ?_
    refine RW.nil (EX.seq ?_)
    -- mq: cond
    first | refine CW.condD rfl (fun h2 => ?_) (fun h2 => ?_) | refine CW.cond rfl (fun h2 => ?_) (fun h2 => ?_)
    · skip
      refine CW.seq (CW.region ?_)
      refine RW.assign rfl rfl ?_
      refine RW.assign rfl rfl ?_
      refine RW.nil (EX.seq (CW.ret (EX.seqR ?_)))
      refine EX.fin2 Tryd.results9 rfl rfl (fun wz hw => ?_)
      -- mq: done
      exact ⟨by rw [lineV_no (fun h => by have := (okSt_iff.1 h).1; dsimp only at this; omega)], hw.ext⟩
    · skip
      obtain ⟨k, rfl⟩ : ∃ k : Nat, kk = (k : Int) := ⟨kk.toNat, by omega⟩
      have hk : k < 7 := by omega
      have hwl := wordsK_len k hk
      refine CW.skip (EX.seq (CW.seq ?_))
      -- mq: region
      refine CW.region ?_
      refine RW.fieldB fl23x0 rfl rfl ?_
      refine RW.loadB1 sc3 rfl rfl (by first | exact Has.head | exact Has.tail Has.head | exact Has.tail (Has.tail Has.head) | exact Has.tail (Has.tail (Has.tail Has.head)) | exact Has.tail (Has.tail (Has.tail (Has.tail Has.head))) | exact Has.tail (Has.tail (Has.tail (Has.tail (Has.tail Has.head)))) | exact Has.tail (Has.tail (Has.tail (Has.tail (Has.tail (Has.tail Has.head)))))) rfl ?_
      refine RW.ixArr (q := k) Tryd.underlying48 ar48 rfl rfl rfl (by omega) (by omega) ?_
      refine RW.loadA ag47 rfl rfl (rfl) (fun w' hw' j u hj => by obtain ⟨ad, hA, _, hcl⟩ := (Rd.of_blk (E := EKd) (L := List.range 7) hw' (Has.head) rfl (by decide)).at_ (range7 hk); cases hA; exact hcl j u hj) ?_
      refine RW.allocA ag47 rfl (fun g5 hg5 hf5 => ?_)
      refine RW.storeA ag47 rfl rfl (by first | exact Upd.head | exact Upd.tail Upd.head | exact Upd.tail (Upd.tail Upd.head) | exact Upd.tail (Upd.tail (Upd.tail Upd.head)) | exact Upd.tail (Upd.tail (Upd.tail (Upd.tail Upd.head))) | exact Upd.tail (Upd.tail (Upd.tail (Upd.tail (Upd.tail Upd.head)))) | exact Upd.tail (Upd.tail (Upd.tail (Upd.tail (Upd.tail (Upd.tail Upd.head)))))) (by first | rfl | exact Enc.len _ _) (by repeat (first | exact Ones.nil | exact Enc.ones _ _ | refine Ones.cons rfl ?_)) (by first | exact Nat.le_of_ble_eq_true rfl | (simp only [Enc.len]; decide)) ?_
      refine RW.nil (EX.seq (CW.seq ?_))
      -- mq: region
      refine CW.region ?_
      refine RW.fieldB fl47x0 rfl rfl ?_
      refine RW.loadB1 sc9 rfl rfl (by first | exact Has.head | exact Has.tail Has.head | exact Has.tail (Has.tail Has.head) | exact Has.tail (Has.tail (Has.tail Has.head)) | exact Has.tail (Has.tail (Has.tail (Has.tail Has.head))) | exact Has.tail (Has.tail (Has.tail (Has.tail (Has.tail Has.head)))) | exact Has.tail (Has.tail (Has.tail (Has.tail (Has.tail (Has.tail Has.head)))))) rfl ?_
      refine RW.buildSlc sl50 rfl rfl rfl rfl (fun g24 hg24 hf24 => ?_)
      refine RW.assign rfl rfl ?_
      refine RW.nil (EX.seq (CW.seq (CW.seq ?_)))
      -- mq: region
      refine CW.ownBlk (m := 1) (sz := 1) (by first | exact Upd.head | exact Upd.tail Upd.head | exact Upd.tail (Upd.tail Upd.head) | exact Upd.tail (Upd.tail (Upd.tail Upd.head)) | exact Upd.tail (Upd.tail (Upd.tail (Upd.tail Upd.head))) | exact Upd.tail (Upd.tail (Upd.tail (Upd.tail (Upd.tail Upd.head)))) | exact Upd.tail (Upd.tail (Upd.tail (Upd.tail (Upd.tail (Upd.tail Upd.head)))))) rfl (by decide) ?_
      refine CW.region ?_
      refine RW.fieldB fl23x1 rfl rfl ?_
      refine RW.loadB1 sc3 rfl rfl (by first | exact Has.head | exact Has.tail Has.head | exact Has.tail (Has.tail Has.head) | exact Has.tail (Has.tail (Has.tail Has.head)) | exact Has.tail (Has.tail (Has.tail (Has.tail Has.head))) | exact Has.tail (Has.tail (Has.tail (Has.tail (Has.tail Has.head)))) | exact Has.tail (Has.tail (Has.tail (Has.tail (Has.tail (Has.tail Has.head)))))) rfl ?_
      refine RW.fieldB fl23x2 rfl rfl ?_
      refine RW.loadB1 sc3 rfl rfl (by first | exact Has.head | exact Has.tail Has.head | exact Has.tail (Has.tail Has.head) | exact Has.tail (Has.tail (Has.tail Has.head)) | exact Has.tail (Has.tail (Has.tail (Has.tail Has.head))) | exact Has.tail (Has.tail (Has.tail (Has.tail (Has.tail Has.head)))) | exact Has.tail (Has.tail (Has.tail (Has.tail (Has.tail (Has.tail Has.head)))))) rfl ?_
      refine RW.buildR ba51 rfl rfl rfl ?_
      refine RW.move rfl rfl ?_
      refine RW.nil (EX.seq (CW.block ?_))
      -- mq: loop
      refine CW.loop (ι := Nat × Value) (fun t => [(1, .pointer (some ⟨g1, 0, none⟩)), (5, .pointer (some ⟨g5, 0, none⟩)), (6, t.2), (29, .agg #[.int .i64 a, .int .i64 b]), (30, .int .i64 (t.1 : Int))]) (fun t => SH w [] [own 9 1 t.2 (wI k a b t.1).length (EStr.all (wI k a b t.1)), blk g5 (kindV k) 47, blk g1 [.int .i64 (k : Int), .int .i64 a, .int .i64 b, .string (bs d)] 23]) (fun t => t.1 ≤ 2 ∧ (1 ≤ t.1 → 1 ≤ numsK k ∨ a = 0) ∧ (2 ≤ t.1 → 2 ≤ numsK k ∨ b = 0)) (fun t => 2 - t.1) ?_ ?_
      · exact fun w' hw' => ⟨(0, _), ⟨Nat.zero_le _, fun h => absurd (show 1 ≤ 0 from h) (by decide), fun h => absurd (show 2 ≤ 0 from h) (by decide)⟩, (by repeat (first | exact Sub.nil | refine Sub.cons (by rfl) ?_)), hw'.rem (Rem.tail (Rem.tail Rem.head))⟩
      · rintro ⟨i, u⟩ ⟨hi, hi1, hi2⟩
        dsimp only at hi hi1 hi2 ⊢
        refine CW.seq (CW.region ?_)
        refine RW.lss rfl rfl rfl ?_
        refine RW.nil (EX.seq (CW.seq ?_))
        -- mq: cond
        first | refine CW.condD rfl (fun hlt => ?_) (fun hlt => ?_) | refine CW.cond rfl (fun hlt => ?_) (fun hlt => ?_)
        · skip
          obtain rfl | rfl : i = 0 ∨ i = 1 := by omega
          · skip
            have hwi := wI_len k a b 0
            refine CW.skip (EX.seq (CW.seq (CW.block (CW.seq (CW.region ?_)))))
            refine RW.move rfl rfl ?_
            refine RW.ixValS (q := 0) Tryd.underlying51 sc3 rfl rfl rfl (by omega) (by omega) rfl ?_
            refine RW.assign rfl rfl ?_
            refine RW.assign rfl rfl ?_
            refine RW.nil (EX.seq (CW.seq ?_))
            -- mq: region
            refine CW.region ?_
            refine RW.move rfl rfl ?_
            refine RW.fieldB fl47x1 rfl rfl ?_
            refine RW.loadB1 sc3 rfl rfl (by first | exact Has.head | exact Has.tail Has.head | exact Has.tail (Has.tail Has.head) | exact Has.tail (Has.tail (Has.tail Has.head)) | exact Has.tail (Has.tail (Has.tail (Has.tail Has.head))) | exact Has.tail (Has.tail (Has.tail (Has.tail (Has.tail Has.head)))) | exact Has.tail (Has.tail (Has.tail (Has.tail (Has.tail (Has.tail Has.head)))))) rfl ?_
            refine RW.lss rfl rfl rfl ?_
            refine RW.nil (EX.seq ?_)
            -- mq: cond
            first | refine CW.condD rfl (fun h3 => ?_) (fun h3 => ?_) | refine CW.cond rfl (fun h3 => ?_) (fun h3 => ?_)
            · skip
              have hs : EStr.all (wI k a b 1) = EStr.all (wI k a b 0) ++ EStr.enc (Lib.itoa a) := by rw [wI_1 a b (by omega), Enc.all_snoc EStr]
              have hs2 : (wI k a b 1).length = (wI k a b 0).length + 1 := by rw [wI_1 a b (by omega), List.length_append]; rfl
              refine CW.region ?_
              refine RW.move rfl rfl ?_
              refine RW.move rfl rfl ?_
              refine RW.call rfl ca19 rfl (fun w' hw' => itoa_c w' (hg.ext hw'.ext) a ha) ?_
              refine RW.buildSlc sl50 rfl rfl rfl rfl (fun g41 hg41 hf41 => ?_)
              refine RW.append1 sl50 rfl rfl rfl (by first | exact Rem.head | exact Rem.tail Rem.head | exact Rem.tail (Rem.tail Rem.head) | exact Rem.tail (Rem.tail (Rem.tail Rem.head)) | exact Rem.tail (Rem.tail (Rem.tail (Rem.tail Rem.head))) | exact Rem.tail (Rem.tail (Rem.tail (Rem.tail (Rem.tail Rem.head)))) | exact Rem.tail (Rem.tail (Rem.tail (Rem.tail (Rem.tail (Rem.tail Rem.head)))))) (fun _ => by first | exact Upd.head | exact Upd.tail Upd.head | exact Upd.tail (Upd.tail Upd.head) | exact Upd.tail (Upd.tail (Upd.tail Upd.head)) | exact Upd.tail (Upd.tail (Upd.tail (Upd.tail Upd.head))) | exact Upd.tail (Upd.tail (Upd.tail (Upd.tail (Upd.tail Upd.head)))) | exact Upd.tail (Upd.tail (Upd.tail (Upd.tail (Upd.tail (Upd.tail Upd.head)))))) rfl (by repeat (first | exact Ones.nil | exact Enc.ones _ _ | refine Ones.cons rfl ?_)) (by simp only [maxLen]; omega) (by omega) (fun v42 hv42 => ?_)
              refine RW.assign rfl rfl ?_
              refine RW.nil (EX.bkN (EX.seq (CW.region ?_)))
              refine RW.add rfl rfl rfl (wrap64 (by omega) (by omega)) ?_
              refine RW.move rfl rfl ?_
              refine RW.nil ?_
              -- mq: loopend
              refine EX.lpN (1, v42) ⟨by dsimp only; omega, fun _ => .inl (by omega), fun h => absurd (show 2 ≤ 1 from h) (by decide)⟩ (by dsimp only; omega) (by repeat (first | exact Sub.nil | refine Sub.cons (by rfl) ?_)) (fun w' hw' => ?_)
              dsimp only
              rw [hs, hs2]
              exact hw'
            · skip
              refine CW.seq (CW.region ?_)
              refine RW.move rfl rfl ?_
              refine RW.neqI rfl rfl rfl ?_
              refine RW.nil (EX.seq ?_)
              -- mq: cond
              first | refine CW.condD rfl (fun h4 => ?_) (fun h4 => ?_) | refine CW.cond rfl (fun h4 => ?_) (fun h4 => ?_)
              · skip
                refine CW.seq (CW.region ?_)
                refine RW.assign rfl rfl ?_
                refine RW.assign rfl rfl ?_
                refine RW.nil (EX.seq (CW.ret (EX.bkR (EX.seqR (EX.lpR (EX.bkR (EX.seqR ?_)))))))
                refine EX.fin2 Tryd.results9 rfl rfl (fun wz hw => ?_)
                -- mq: done
                exact ⟨by rw [lineV_no (fun h => by have := (okSt4.1 h).2.2.1; omega)], hw.ext⟩
              · skip
                refine CW.skip (EX.bkN (EX.seq (CW.region ?_)))
                refine RW.add rfl rfl rfl (wrap64 (by omega) (by omega)) ?_
                refine RW.move rfl rfl ?_
                refine RW.nil ?_
                -- mq: loopend
                refine EX.lpN (1, u) ⟨by dsimp only; omega, fun _ => .inr (by omega), fun h => absurd (show 2 ≤ 1 from h) (by decide)⟩ (by dsimp only; omega) (by repeat (first | exact Sub.nil | refine Sub.cons (by rfl) ?_)) (fun w' hw' => ?_)
                dsimp only
                rw [wI_1n a b (by omega)]
                exact hw'
          · skip
            have hwi := wI_len k a b 1
            refine CW.skip (EX.seq (CW.seq (CW.block (CW.seq (CW.region ?_)))))
            refine RW.move rfl rfl ?_
            refine RW.ixValS (q := 1) Tryd.underlying51 sc3 rfl rfl rfl (by omega) (by omega) rfl ?_
            refine RW.assign rfl rfl ?_
            refine RW.assign rfl rfl ?_
            refine RW.nil (EX.seq (CW.seq ?_))
            -- mq: region
            refine CW.region ?_
            refine RW.move rfl rfl ?_
            refine RW.fieldB fl47x1 rfl rfl ?_
            refine RW.loadB1 sc3 rfl rfl (by first | exact Has.head | exact Has.tail Has.head | exact Has.tail (Has.tail Has.head) | exact Has.tail (Has.tail (Has.tail Has.head)) | exact Has.tail (Has.tail (Has.tail (Has.tail Has.head))) | exact Has.tail (Has.tail (Has.tail (Has.tail (Has.tail Has.head)))) | exact Has.tail (Has.tail (Has.tail (Has.tail (Has.tail (Has.tail Has.head)))))) rfl ?_
            refine RW.lss rfl rfl rfl ?_
            refine RW.nil (EX.seq ?_)
            -- mq: cond
            first | refine CW.condD rfl (fun h3 => ?_) (fun h3 => ?_) | refine CW.cond rfl (fun h3 => ?_) (fun h3 => ?_)
            · skip
              have hs : EStr.all (wI k a b 2) = EStr.all (wI k a b 1) ++ EStr.enc (Lib.itoa b) := by rw [wI_2 a b (by omega), Enc.all_snoc EStr]
              have hs2 : (wI k a b 2).length = (wI k a b 1).length + 1 := by rw [wI_2 a b (by omega), List.length_append]; rfl
              refine CW.region ?_
              refine RW.move rfl rfl ?_
              refine RW.move rfl rfl ?_
              refine RW.call rfl ca19 rfl (fun w' hw' => itoa_c w' (hg.ext hw'.ext) b hb) ?_
              refine RW.buildSlc sl50 rfl rfl rfl rfl (fun g41 hg41 hf41 => ?_)
              refine RW.append1 sl50 rfl rfl rfl (by first | exact Rem.head | exact Rem.tail Rem.head | exact Rem.tail (Rem.tail Rem.head) | exact Rem.tail (Rem.tail (Rem.tail Rem.head)) | exact Rem.tail (Rem.tail (Rem.tail (Rem.tail Rem.head))) | exact Rem.tail (Rem.tail (Rem.tail (Rem.tail (Rem.tail Rem.head)))) | exact Rem.tail (Rem.tail (Rem.tail (Rem.tail (Rem.tail (Rem.tail Rem.head)))))) (fun _ => by first | exact Upd.head | exact Upd.tail Upd.head | exact Upd.tail (Upd.tail Upd.head) | exact Upd.tail (Upd.tail (Upd.tail Upd.head)) | exact Upd.tail (Upd.tail (Upd.tail (Upd.tail Upd.head))) | exact Upd.tail (Upd.tail (Upd.tail (Upd.tail (Upd.tail Upd.head)))) | exact Upd.tail (Upd.tail (Upd.tail (Upd.tail (Upd.tail (Upd.tail Upd.head)))))) rfl (by repeat (first | exact Ones.nil | exact Enc.ones _ _ | refine Ones.cons rfl ?_)) (by simp only [maxLen]; omega) (by omega) (fun v42 hv42 => ?_)
              refine RW.assign rfl rfl ?_
              refine RW.nil (EX.bkN (EX.seq (CW.region ?_)))
              refine RW.add rfl rfl rfl (wrap64 (by omega) (by omega)) ?_
              refine RW.move rfl rfl ?_
              refine RW.nil ?_
              -- mq: loopend
              refine EX.lpN (2, v42) ⟨by dsimp only; omega, fun _ => hi1 (by decide), fun _ => .inl (by omega)⟩ (by dsimp only; omega) (by repeat (first | exact Sub.nil | refine Sub.cons (by rfl) ?_)) (fun w' hw' => ?_)
              dsimp only
              rw [hs, hs2]
              exact hw'
            · skip
              refine CW.seq (CW.region ?_)
              refine RW.move rfl rfl ?_
              refine RW.neqI rfl rfl rfl ?_
              refine RW.nil (EX.seq ?_)
              -- mq: cond
              first | refine CW.condD rfl (fun h4 => ?_) (fun h4 => ?_) | refine CW.cond rfl (fun h4 => ?_) (fun h4 => ?_)
              · skip
                refine CW.seq (CW.region ?_)
                refine RW.assign rfl rfl ?_
                refine RW.assign rfl rfl ?_
                refine RW.nil (EX.seq (CW.ret (EX.bkR (EX.seqR (EX.lpR (EX.bkR (EX.seqR ?_)))))))
                refine EX.fin2 Tryd.results9 rfl rfl (fun wz hw => ?_)
                -- mq: done
                exact ⟨by rw [lineV_no (fun h => by have := (okSt4.1 h).2.2.2.1; omega)], hw.ext⟩
              · skip
                refine CW.skip (EX.bkN (EX.seq (CW.region ?_)))
                refine RW.add rfl rfl rfl (wrap64 (by omega) (by omega)) ?_
                refine RW.move rfl rfl ?_
                refine RW.nil ?_
                -- mq: loopend
                refine EX.lpN (2, u) ⟨by dsimp only; omega, fun _ => hi1 (by decide), fun _ => .inr (by omega)⟩ (by dsimp only; omega) (by repeat (first | exact Sub.nil | refine Sub.cons (by rfl) ?_)) (fun w' hw' => ?_)
                dsimp only
                rw [wI_2n a b (by omega)]
                exact hw'
        · skip
          obtain rfl : i = 2 := by omega
          have hwi := wI_len k a b 2
          have hwm := wI_mem hk ha hb
          have hq1 := hi1 (by decide)
          have hq2 := hi2 (by decide)
          have hhx : (hexT d).length = 2 * d.length + 1 := by unfold hexT; rw [List.length_cons, hexP_len]
          cases hh : hasK k with
          | true =>
            rw [show kindV k = [.string (bs (wordsK.getD k [])), .int .i64 (numsK k : Int), .bool true] by rw [kindV, hh]]
            refine CW.exit (EX.seqE (EX.lpE (EX.bkE (EX.seq (CW.seq (CW.seq ?_))))))
            -- mq: region
            refine CW.region ?_
            refine RW.fieldB fl47x2 rfl rfl ?_
            refine RW.loadB1 sc4 rfl rfl (by first | exact Has.head | exact Has.tail Has.head | exact Has.tail (Has.tail Has.head) | exact Has.tail (Has.tail (Has.tail Has.head)) | exact Has.tail (Has.tail (Has.tail (Has.tail Has.head))) | exact Has.tail (Has.tail (Has.tail (Has.tail (Has.tail Has.head)))) | exact Has.tail (Has.tail (Has.tail (Has.tail (Has.tail (Has.tail Has.head)))))) rfl ?_
            refine RW.nil (EX.seq ?_)
            -- mq: cond
            refine CW.condT rfl (rfl) ?_
            refine CW.region ?_
            refine RW.move rfl rfl ?_
            refine RW.fieldB fl23x3 rfl rfl ?_
            refine RW.loadB1 sc9 rfl rfl (by first | exact Has.head | exact Has.tail Has.head | exact Has.tail (Has.tail Has.head) | exact Has.tail (Has.tail (Has.tail Has.head)) | exact Has.tail (Has.tail (Has.tail (Has.tail Has.head))) | exact Has.tail (Has.tail (Has.tail (Has.tail (Has.tail Has.head)))) | exact Has.tail (Has.tail (Has.tail (Has.tail (Has.tail (Has.tail Has.head)))))) rfl ?_
            refine RW.call rfl ca20 rfl (fun w' hw' => hex_c w' d hl) ?_
            refine RW.buildSlc sl50 rfl rfl rfl rfl (fun g52 hg52 hf52 => ?_)
            refine RW.append1 sl50 rfl rfl rfl (by first | exact Rem.head | exact Rem.tail Rem.head | exact Rem.tail (Rem.tail Rem.head) | exact Rem.tail (Rem.tail (Rem.tail Rem.head)) | exact Rem.tail (Rem.tail (Rem.tail (Rem.tail Rem.head))) | exact Rem.tail (Rem.tail (Rem.tail (Rem.tail (Rem.tail Rem.head)))) | exact Rem.tail (Rem.tail (Rem.tail (Rem.tail (Rem.tail (Rem.tail Rem.head)))))) (fun _ => by first | exact Upd.head | exact Upd.tail Upd.head | exact Upd.tail (Upd.tail Upd.head) | exact Upd.tail (Upd.tail (Upd.tail Upd.head)) | exact Upd.tail (Upd.tail (Upd.tail (Upd.tail Upd.head))) | exact Upd.tail (Upd.tail (Upd.tail (Upd.tail (Upd.tail Upd.head)))) | exact Upd.tail (Upd.tail (Upd.tail (Upd.tail (Upd.tail (Upd.tail Upd.head)))))) rfl (by repeat (first | exact Ones.nil | exact Enc.ones _ _ | refine Ones.cons rfl ?_)) (by simp only [maxLen]; omega) (by omega) (fun v53 hv53 => ?_)
            refine RW.assign rfl rfl ?_
            refine RW.nil (EX.seq (CW.seq (CW.seq ?_)))
            -- mq: region
            refine CW.region ?_
            refine RW.fieldB fl47x2 rfl rfl ?_
            refine RW.loadB1 sc4 rfl rfl (by first | exact Has.head | exact Has.tail Has.head | exact Has.tail (Has.tail Has.head) | exact Has.tail (Has.tail (Has.tail Has.head)) | exact Has.tail (Has.tail (Has.tail (Has.tail Has.head))) | exact Has.tail (Has.tail (Has.tail (Has.tail (Has.tail Has.head)))) | exact Has.tail (Has.tail (Has.tail (Has.tail (Has.tail (Has.tail Has.head)))))) rfl ?_
            refine RW.not_ rfl rfl ?_
            -- mq: at
            refine RW.move rfl rfl ?_
            refine RW.guardF rfl rfl rfl rfl ?_
            refine RW.guardF rfl rfl rfl rfl ?_
            refine RW.guardF rfl rfl rfl rfl ?_
            refine RW.pickC rfl rfl rfl rfl ?_
            -- mq: at
            refine RW.move rfl rfl ?_
            refine RW.guardT rfl rfl rfl ?_
            refine RW.fieldB fl23x3 rfl rfl ?_
            refine RW.guardT rfl rfl rfl ?_
            refine RW.loadB1 sc9 rfl rfl (by first | exact Has.head | exact Has.tail Has.head | exact Has.tail (Has.tail Has.head) | exact Has.tail (Has.tail (Has.tail Has.head)) | exact Has.tail (Has.tail (Has.tail (Has.tail Has.head))) | exact Has.tail (Has.tail (Has.tail (Has.tail (Has.tail Has.head)))) | exact Has.tail (Has.tail (Has.tail (Has.tail (Has.tail (Has.tail Has.head)))))) rfl ?_
            refine RW.guardT rfl rfl rfl ?_
            refine RW.lenS Tryd.underlying9 rfl rfl ?_
            refine RW.guardT rfl rfl rfl ?_
            refine RW.gtr rfl rfl rfl ?_
            refine RW.pickC rfl rfl rfl rfl ?_
            refine RW.nil (EX.seq ?_)
            -- mq: cond
            first | refine CW.condD rfl (fun h5 => ?_) (fun h5 => ?_) | refine CW.cond rfl (fun h5 => ?_) (fun h5 => ?_)
            · skip
              refine CW.seq (CW.region ?_)
              refine RW.assign rfl rfl ?_
              refine RW.assign rfl rfl ?_
              refine RW.nil (EX.seq (CW.ret (EX.seqR ?_)))
              refine EX.fin2 Tryd.results9 rfl rfl (fun wz hw => ?_)
              -- mq: done
              exact ⟨by rw [lineV_no (fun h => by have := (okSt4.1 h).2.1; omega)], hw.ext⟩
            · skip
              have hL := wI_t k a b d hh
              have hlj : (Lib.join (wI k a b 2 ++ [hexT d]) [32]).length ≤ 140737488355328 := by
                refine Nat.le_trans (joinLe (B := 2000001) _ (fun x hx => ?_)) ?_
                · rcases List.mem_append.1 hx with hx | hx
                  · have := hwm x hx; omega
                  · rw [List.mem_singleton.1 hx]; omega
                · rw [List.length_append]; show ((wI k a b 2).length + 1) * _ ≤ _; omega
              have hs : EStr.all (wI k a b 2 ++ [hexT d]) = EStr.all (wI k a b 2) ++ EStr.enc (hexT d) := by rw [Enc.all_snoc EStr]
              refine CW.skip (EX.seq (CW.seq (CW.region ?_)))
              refine RW.move rfl rfl ?_
              refine RW.call rfl caJoin rfl (fun w' hw' => join_c w' _ _ _ (wI k a b 2 ++ [hexT d]) [32] (by rw [hs]; exact hw'.has (by first | exact Has.head | exact Has.tail Has.head | exact Has.tail (Has.tail Has.head) | exact Has.tail (Has.tail (Has.tail Has.head)) | exact Has.tail (Has.tail (Has.tail (Has.tail Has.head))) | exact Has.tail (Has.tail (Has.tail (Has.tail (Has.tail Has.head)))) | exact Has.tail (Has.tail (Has.tail (Has.tail (Has.tail (Has.tail Has.head))))))) (by rw [List.length_append]; rfl) (by omega) hlj) ?_
              refine RW.assign rfl rfl ?_
              refine RW.assign rfl rfl ?_
              refine RW.nil (EX.seq (CW.ret ?_))
              refine EX.fin2 Tryd.results9 rfl rfl (fun wz hw => ?_)
              -- mq: done
              refine ⟨?_, hw.ext⟩
              rw [lineV_ok (okSt4.2 ⟨by omega, by omega, hq1, hq2, .inl hh⟩), lineS, hL]
          | false =>
            rw [show kindV k = [.string (bs (wordsK.getD k [])), .int .i64 (numsK k : Int), .bool false] by rw [kindV, hh]]
            refine CW.exit (EX.seqE (EX.lpE (EX.bkE (EX.seq (CW.seq (CW.seq ?_))))))
            -- mq: region
            refine CW.region ?_
            refine RW.fieldB fl47x2 rfl rfl ?_
            refine RW.loadB1 sc4 rfl rfl (by first | exact Has.head | exact Has.tail Has.head | exact Has.tail (Has.tail Has.head) | exact Has.tail (Has.tail (Has.tail Has.head)) | exact Has.tail (Has.tail (Has.tail (Has.tail Has.head))) | exact Has.tail (Has.tail (Has.tail (Has.tail (Has.tail Has.head)))) | exact Has.tail (Has.tail (Has.tail (Has.tail (Has.tail (Has.tail Has.head)))))) rfl ?_
            refine RW.nil (EX.seq ?_)
            -- mq: cond
            refine CW.condF rfl (rfl) ?_
            refine CW.skip (EX.seq (CW.seq (CW.seq ?_)))
            -- mq: region
            refine CW.region ?_
            refine RW.fieldB fl47x2 rfl rfl ?_
            refine RW.loadB1 sc4 rfl rfl (by first | exact Has.head | exact Has.tail Has.head | exact Has.tail (Has.tail Has.head) | exact Has.tail (Has.tail (Has.tail Has.head)) | exact Has.tail (Has.tail (Has.tail (Has.tail Has.head))) | exact Has.tail (Has.tail (Has.tail (Has.tail (Has.tail Has.head)))) | exact Has.tail (Has.tail (Has.tail (Has.tail (Has.tail (Has.tail Has.head)))))) rfl ?_
            refine RW.not_ rfl rfl ?_
            -- mq: at
            refine RW.move rfl rfl ?_
            refine RW.guardT rfl rfl rfl ?_
            refine RW.fieldB fl23x3 rfl rfl ?_
            refine RW.guardT rfl rfl rfl ?_
            refine RW.loadB1 sc9 rfl rfl (by first | exact Has.head | exact Has.tail Has.head | exact Has.tail (Has.tail Has.head) | exact Has.tail (Has.tail (Has.tail Has.head)) | exact Has.tail (Has.tail (Has.tail (Has.tail Has.head))) | exact Has.tail (Has.tail (Has.tail (Has.tail (Has.tail Has.head)))) | exact Has.tail (Has.tail (Has.tail (Has.tail (Has.tail (Has.tail Has.head)))))) rfl ?_
            refine RW.guardT rfl rfl rfl ?_
            refine RW.neqS rfl rfl rfl ?_
            refine RW.pickB rfl rfl rfl rfl ?_
            refine RW.move rfl rfl ?_
            -- mq: at
            refine RW.casesB 62 rfl (fun h5 => ?_) (fun h5 => ?_)
            · skip
              have h5p := of_decide_eq_true h5
              refine RW.guardF rfl rfl rfl h5 ?_
              refine RW.guardF rfl rfl rfl h5 ?_
              refine RW.guardF rfl rfl rfl h5 ?_
              refine RW.guardF rfl rfl rfl h5 ?_
              refine RW.pickB rfl rfl h5 rfl ?_
              refine RW.nil (EX.seq ?_)
              -- mq: cond
              refine CW.condT rfl (rfl) ?_
              refine CW.seq (CW.region ?_)
              refine RW.assign rfl rfl ?_
              refine RW.assign rfl rfl ?_
              refine RW.nil (EX.seq (CW.ret (EX.seqR ?_)))
              refine EX.fin2 Tryd.results9 rfl rfl (fun wz hw => ?_)
              -- mq: done
              exact ⟨by rw [lineV_no (fun h => by rcases (okSt4.1 h).2.2.2.2 with e | e; rw [hh] at e; cases e; exact absurd e (by simpa using h5))], hw.ext⟩
            · skip
              have h5p := of_decide_eq_false h5
              have hd0 : d = [] := by simpa using h5
              refine RW.guardT rfl rfl h5 ?_
              refine RW.fieldB fl23x3 rfl rfl ?_
              refine RW.guardT rfl rfl h5 ?_
              refine RW.loadB1 sc9 rfl rfl (by first | exact Has.head | exact Has.tail Has.head | exact Has.tail (Has.tail Has.head) | exact Has.tail (Has.tail (Has.tail Has.head)) | exact Has.tail (Has.tail (Has.tail (Has.tail Has.head))) | exact Has.tail (Has.tail (Has.tail (Has.tail (Has.tail Has.head)))) | exact Has.tail (Has.tail (Has.tail (Has.tail (Has.tail (Has.tail Has.head)))))) rfl ?_
              refine RW.guardT rfl rfl h5 ?_
              refine RW.lenS Tryd.underlying9 rfl rfl ?_
              refine RW.guardT rfl rfl h5 ?_
              refine RW.gtr rfl rfl rfl ?_
              refine RW.pickC rfl rfl h5 rfl ?_
              refine RW.nil (EX.seq ?_)
              -- mq: cond
              first | refine CW.condD rfl (fun h6 => ?_) (fun h6 => ?_) | refine CW.cond rfl (fun h6 => ?_) (fun h6 => ?_)
              · skip
                rw [hd0] at h6
                exact absurd h6 (by simp)
              · skip
                have hL := wI_f k a b d hh
                have hlj : (Lib.join (wI k a b 2) [32]).length ≤ 140737488355328 := by
                  refine Nat.le_trans (joinLe (B := 21) _ hwm) ?_
                  omega
                refine CW.skip (EX.seq (CW.seq (CW.region ?_)))
                refine RW.move rfl rfl ?_
                refine RW.call rfl caJoin rfl (fun w' hw' => join_c w' _ _ _ (wI k a b 2) [32] (hw'.has (by first | exact Has.head | exact Has.tail Has.head | exact Has.tail (Has.tail Has.head) | exact Has.tail (Has.tail (Has.tail Has.head)) | exact Has.tail (Has.tail (Has.tail (Has.tail Has.head))) | exact Has.tail (Has.tail (Has.tail (Has.tail (Has.tail Has.head)))) | exact Has.tail (Has.tail (Has.tail (Has.tail (Has.tail (Has.tail Has.head))))))) rfl (by omega) hlj) ?_
                refine RW.assign rfl rfl ?_
                refine RW.assign rfl rfl ?_
                refine RW.nil (EX.seq (CW.ret ?_))
                refine EX.fin2 Tryd.results9 rfl rfl (fun wz hw => ?_)
                -- mq: done
                refine ⟨?_, hw.ext⟩
                rw [lineV_ok (okSt4.2 ⟨by omega, by omega, hq1, hq2, .inr hd0⟩), lineS, hL]
end Go.Proofs.YtnpafpnameleaaaDoor.Mq
