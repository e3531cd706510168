/- dump: Read, the reference's Same -/
import Derived.Test.YtnkdabjahmjdoaaDoorS7
import Derived.Test.YtnkdabjahmjdoaaDoorCutS
import Derived.Test.YtnkdabjahmjdoaaDoorSplA
namespace Go.Proofs.YtnkdabjahmjdoaaDoor.Mq
open Go Go.RowKit Go.Proofs

theorem dropW_lt {s : List UInt8} (h : s ≠ []) : ((s.dropWhile (· ≠ 10)).drop 1).length < s.length := by
  have h1 := (List.dropWhile_sublist (fun x : UInt8 => decide (x ≠ 10)) (l := s)).length_le
  have h2 := List.length_pos_iff.2 h
  rw [List.length_drop]; omega
noncomputable def readF (n : Nat) (s : List UInt8) : List BlkV × Nat × Nat :=
  if h : s = [] then ([], 0, 0) else
  if (10 : UInt8) ∈ s then
    if (parseD (s.takeWhile (· ≠ 10))).2 ≠ 0 then ([], n, (parseD (s.takeWhile (· ≠ 10))).2) else
    if (readF (n + 1) ((s.dropWhile (· ≠ 10)).drop 1)).2.2 ≠ 0 then readF (n + 1) ((s.dropWhile (· ≠ 10)).drop 1) else
    ((parseD (s.takeWhile (· ≠ 10))).1 :: (readF (n + 1) ((s.dropWhile (· ≠ 10)).drop 1)).1, 0, 0)
  else ([], n, 4)
termination_by s.length
decreasing_by all_goals exact dropW_lt h
def addF (O : List BlkV) (q : List BlkV × Nat × Nat) : List BlkV × Nat × Nat := if q.2.2 ≠ 0 then q else (O ++ q.1, 0, 0)
theorem readF_nil (n : Nat) : readF n [] = ([], 0, 0) := by rw [readF, dif_pos rfl]
theorem readF_none {n : Nat} {s : List UInt8} (h : s ≠ []) (h1 : (10 : UInt8) ∉ s) : readF n s = ([], n, 4) := by rw [readF, dif_neg h, if_neg h1]
theorem readF_bad {n : Nat} {s : List UInt8} (h1 : (10 : UInt8) ∈ s) (h2 : (parseD (s.takeWhile (· ≠ 10))).2 ≠ 0) : readF n s = ([], n, (parseD (s.takeWhile (· ≠ 10))).2) := by
  rw [readF, dif_neg (List.ne_nil_of_mem h1), if_pos h1, if_pos h2]
theorem addF_step {n : Nat} {s : List UInt8} {O : List BlkV} (h1 : (10 : UInt8) ∈ s) (h2 : (parseD (s.takeWhile (· ≠ 10))).2 = 0) :
    addF O (readF n s) = addF (O ++ [(parseD (s.takeWhile (· ≠ 10))).1]) (readF (n + 1) ((s.dropWhile (· ≠ 10)).drop 1)) := by
  rw [readF, dif_neg (List.ne_nil_of_mem h1), if_pos h1, if_neg (fun h => h h2)]
  generalize readF (n + 1) ((s.dropWhile (· ≠ 10)).drop 1) = q
  by_cases h3 : q.2.2 = 0
  · rw [if_neg (fun h => h h3)]
    unfold addF
    rw [if_neg (fun h => h rfl), if_neg (fun h => h h3)]
    simp
  · rw [if_pos h3]
    unfold addF
    rw [if_pos h3, if_pos h3]
theorem addF_err {O : List BlkV} {n e : Nat} (h : e ≠ 0) : addF O ([], n, e) = ([], n, e) := if_pos h
theorem addF_ok (O : List BlkV) : addF O ([], 0, 0) = (O, 0, 0) := by rw [addF, if_neg (fun h => h rfl), List.append_nil]
theorem readF_zero : ∀ (m n : Nat) (s : List UInt8), s.length ≤ m → (readF n s).2.2 = 0 → (readF n s).2.1 = 0
  | m, n, s, hm, h => by
    by_cases h0 : s = []
    · rw [h0, readF_nil]
    · by_cases h1 : (10 : UInt8) ∈ s
      · by_cases h2 : (parseD (s.takeWhile (· ≠ 10))).2 = 0
        · have hlt := dropW_lt h0
          cases m with
          | zero => exact absurd (List.length_eq_zero_iff.1 (by omega)) h0
          | succ m =>
            have ih := readF_zero m (n + 1) ((s.dropWhile (· ≠ 10)).drop 1) (by omega)
            rw [readF, dif_neg h0, if_pos h1, if_neg (fun h => h h2)] at h ⊢
            by_cases h3 : (readF (n + 1) ((s.dropWhile (· ≠ 10)).drop 1)).2.2 = 0
            · rw [if_neg (fun h => h h3)]
            · rw [if_pos h3] at h; exact absurd h h3
        · rw [readF_bad h1 h2] at h; exact absurd h h2
      · rw [readF_none h0 h1] at h; cases h
theorem addF_start (n : Nat) (s : List UInt8) : readF n s = addF [] (readF n s) := by
  unfold addF
  by_cases h : (readF n s).2.2 = 0
  · rw [if_neg (fun e => e h), List.nil_append]
    have h2 := readF_zero _ n s (Nat.le_refl _) h
    generalize readF n s = q at h h2 ⊢
    obtain ⟨a, b, c⟩ := q
    dsimp only at h h2
    rw [h, h2]
  · rw [if_pos h]
def IsRead (r : List BlkV × Nat × Nat) (w0 : World) (v : Value) (w1 : World) : Prop := ∃ A m c, v = .tuple #[.slice A m c, .int .i64 (r.2.1 : Int), .int .i64 (r.2.2 : Int)] ∧ Rd EBlk w1 (fun k => w0.heap.size ≤ k) A m c r.1
theorem Rd.nilSl {α : Type} (E : Enc α) (w : World) (F : Nat → Prop) : Rd E w F none 0 0 [] := ⟨rfl, Nat.le_refl _, Nat.zero_le _, fun h => absurd h (by decide)⟩
theorem cut_ten {t : List UInt8} (h : (10 : UInt8) ∈ t) : afterL 10 t = (t.takeWhile (· ≠ 10) ++ [10]) :: afterL 10 ((t.dropWhile (· ≠ 10)).drop 1) := by
  obtain ⟨pre, post, rfl, hp⟩ : ∃ pre post, t = pre ++ 10 :: post ∧ (10 : UInt8) ∉ pre := by
    rcases ib_cases t 10 with ⟨hno, -⟩ | ⟨pre, post, e, hp, -⟩
    · exact absurd h hno
    · exact ⟨pre, post, e, hp⟩
  rw [(cut_pre hp).1, (cut_pre hp).2, afterL_cut hp]
theorem afterL_le (c : UInt8) : ∀ s : List UInt8, (afterL c s).length ≤ s.length + 1
  | [] => Nat.le_refl _
  | a :: s => by
    have ih := afterL_le c s
    unfold afterL
    split
    · simp only [List.length_cons]; omega
    · split
      · simp
      · rename_i p r h
        rw [h] at ih
        simp only [List.length_cons] at ih ⊢; omega
theorem take_snoc (p : List UInt8) (c : UInt8) : (p ++ [c]).take ((p ++ [c]).length - [c].length) = p := by simp
/-- what is left to read behind so many lines: a text, or nothing -/
def LeftOk (s : List UInt8) (n i : Nat) (O : List BlkV) : Option (List UInt8) → Prop
  | some t => (afterL 10 s).drop i = afterL 10 t ∧ readF 1 s = addF O (readF (i + 1) t) ∧ t.length ≤ s.length
  | none => i = n ∧ readF 1 s = (O, 0, 0)
set_option maxHeartbeats 1000000 in
theorem Read_c (w : World) (hg : GD w) (s : List UInt8) (hs : s.length ≤ 1000000) :
    Calls Tryd.prog 20 [.string (bs s)].toArray w (RetA (IsRead (readF 1 s) w) w) := by
  refine calls (n := 55) Tryd.func20 rfl Tryd.ntmps20 rfl ?_
  refine CW.sub (H' := SH w [] []) ?_ (Sub.refl _) (fun x hx => SH.start' _ _ hx)
  refine CW.seq (CW.region ?_)
  refine RW.assign rfl rfl ?_
  refine RW.assign rfl rfl ?_
  refine RW.assign rfl rfl ?_
  refine RW.nil (EX.seq (CW.seq ?_))
  -- mq: region
  refine CW.region ?_
  refine RW.move rfl rfl ?_
  -- mq: at
  refine RW.callK rfl caSplitAfter rfl (fun w' hw' => splitAfter_c w' (hg.ext hw'.ext).m s 10 hs) (fun w2 w3 A n c hw2 he23 hw3 hlt3 hrd => ?_)
  have hn := hrd.len
  have hnl := afterL_le 10 s
  have hcap := hrd.cap
  have hmax := hrd.max
  simp only [maxLen] at hmax
  have hx13 : Ext [] w w3 := hw2.ext.trans0 he23
  refine RW.assign rfl rfl ?_
  refine RW.nil (EX.seq (CW.seq ?_))
  -- mq: region
  refine CW.ownNil 26 17 ?_
  refine CW.region ?_
  refine RW.assign rfl rfl ?_
  refine RW.nil (EX.seq (CW.seq (CW.seq (CW.region ?_))))
  refine RW.move rfl rfl ?_
  refine RW.lenSl Tryd.underlying33 rfl rfl ?_
  refine RW.move rfl rfl ?_
  refine RW.nil (EX.seq (CW.block ?_))
  -- mq: loop
  refine CW.loop (ι := Value × List BlkV × Nat × Option (List UInt8)) (fun t => [(0, .string (bs s)), (6, t.1), (15, .slice A n c), (16, .int .i64 (n : Int)), (17, .int .i64 (t.2.2.1 : Int))]) (fun t => SH w3 (feet []) [own 26 17 t.1 t.2.1.length (EBlk.all t.2.1)]) (fun t => t.2.2.1 ≤ n ∧ t.2.1.length ≤ t.2.2.1 ∧ LeftOk s n t.2.2.1 t.2.1 t.2.2.2) (fun t => n - t.2.2.1) ?_ ?_
  · exact fun w' hw' => ⟨(_, [], 0, some s), ⟨Nat.zero_le _, Nat.le_refl _, rfl, addF_start 1 s, Nat.le_refl _⟩, (by repeat (first | exact Sub.nil | refine Sub.cons (by rfl) ?_)), hw'⟩
  · rintro ⟨v, O, i, t⟩ ⟨hi, hO, hsp⟩
    dsimp only at hi hO hsp ⊢
    refine CW.seq (CW.region ?_)
    refine RW.lss rfl rfl rfl ?_
    refine RW.nil (EX.seq (CW.seq ?_))
    -- mq: cond
    first | refine CW.condD rfl (fun h1 => ?_) (fun h1 => ?_) | refine CW.cond rfl (fun h1 => ?_) (fun h1 => ?_)
    · skip
      obtain ⟨t, rfl⟩ : ∃ t', t = some t' := by
        cases t with
        | none => exact absurd hsp.1 (by omega)
        | some t => exact ⟨t, rfl⟩
      obtain ⟨hd, hsp, htl⟩ := hsp
      have hnx : (afterL 10 s).drop (i + 1) = (afterL 10 t).drop 1 := by rw [← hd, List.drop_drop]
      by_cases h10 : (10 : UInt8) ∈ t
      · skip
        have hct := cut_ten h10
        have hLi : (afterL 10 s)[i]? = some (t.takeWhile (· ≠ 10) ++ [10]) := by
          have := congrArg (fun l => l[0]?) (hd.trans hct)
          rw [List.getElem?_drop] at this
          exact this
        rw [hct, List.drop_one, List.tail_cons] at hnx
        have hlt1 : (t.takeWhile (· ≠ 10)).length ≤ t.length := (List.takeWhile_sublist _).length_le
        have hlt2 := dropW_lt (List.ne_nil_of_mem h10)
        have hrbad := readF_bad (n := i + 1) h10
        have hrst := addF_step (n := i + 1) (O := O) h10
        generalize t.takeWhile (· ≠ 10) = pre at *
        generalize (t.dropWhile (· ≠ 10)).drop 1 = post at *
        have hdp := fun w' (h : GD w') => dparse_c w' h.l h.e h.m pre (by omega)
        generalize parseD pre = pq at *
        obtain ⟨b, e⟩ := pq
        dsimp only at hrbad hrst
        obtain ⟨ad, hA, had, hcl⟩ := hrd.at_ hLi
        refine CW.skip (EX.seq (CW.seq (CW.block (CW.seq (CW.region ?_)))))
        refine RW.move rfl rfl ?_
        refine RW.ixAddr (q := i) sl33 rfl rfl rfl (by first | rfl | assumption) (by omega) (by omega) ?_
        refine RW.load1 sc9 rfl rfl (fun w' hw' => hw'.base_cell (hcl 0 _ rfl) (by simp [feet])) ?_
        refine RW.assign rfl rfl ?_
        refine RW.assign rfl rfl ?_
        refine RW.nil (EX.seq (CW.seq ?_))
        -- mq: region
        refine CW.region ?_
        refine RW.move rfl rfl ?_
        refine RW.call (v := .tuple #[.string (bs pre), .bool true]) rfl caCutSuffix rfl (fun w' _ => by have h := cutSuffix_c w' (pre ++ [10]) [10] (by rw [List.length_append, List.length_singleton]; omega) (by decide); rw [if_pos (sufB_snoc pre 10), sufB_snoc, take_snoc] at h; exact h) ?_
        refine RW.move rfl rfl ?_
        refine RW.extract rfl rfl rfl ?_
        refine RW.extract rfl rfl rfl ?_
        refine RW.assign rfl rfl ?_
        refine RW.assign rfl rfl ?_
        refine RW.nil (EX.seq (CW.seq (CW.block (CW.seq (CW.region ?_)))))
        refine RW.move rfl rfl ?_
        refine RW.not_ rfl rfl ?_
        refine RW.move rfl rfl ?_
        refine RW.guardF rfl rfl rfl rfl ?_
        refine RW.guardF rfl rfl rfl rfl ?_
        refine RW.pickC rfl rfl rfl rfl ?_
        refine RW.assign rfl rfl ?_
        refine RW.nil (EX.seq ?_)
        -- mq: cond
        refine CW.condF rfl (rfl) ?_
        refine CW.seq (CW.region ?_)
        refine RW.move rfl rfl ?_
        refine RW.not_ rfl rfl ?_
        refine RW.assign rfl rfl ?_
        refine RW.nil (EX.seq ?_)
        -- mq: cond
        refine CW.condF rfl (rfl) ?_
        refine CW.skip (EX.bkN (EX.seq (CW.seq (CW.region ?_))))
        refine RW.move rfl rfl ?_
        refine RW.call (v := dparV (b, e)) rfl ca17 rfl (fun w' hw' => hdp w' (hg.ext (hx13.trans0 hw'.ext))) ?_
        refine RW.move rfl rfl ?_
        refine RW.extract rfl rfl rfl ?_
        refine RW.extract rfl rfl rfl ?_
        refine RW.allocA ag26 rfl (fun g11 hg11 hf11 => ?_)
        refine RW.storeA ag26 rfl rfl (by first | exact Upd.head | exact Upd.tail Upd.head | exact Upd.tail (Upd.tail Upd.head) | exact Upd.tail (Upd.tail (Upd.tail Upd.head)) | exact Upd.tail (Upd.tail (Upd.tail (Upd.tail Upd.head))) | exact Upd.tail (Upd.tail (Upd.tail (Upd.tail (Upd.tail Upd.head)))) | exact Upd.tail (Upd.tail (Upd.tail (Upd.tail (Upd.tail (Upd.tail Upd.head)))))) (by first | rfl | exact Enc.len _ _) (by repeat (first | exact Ones.nil | exact Enc.ones _ _ | refine Ones.cons rfl ?_)) (by first | exact Nat.le_of_ble_eq_true rfl | (simp only [Enc.len]; decide)) ?_
        refine RW.assign rfl rfl ?_
        refine RW.nil (EX.seq (CW.seq (CW.seq (CW.region ?_))))
        refine RW.move rfl rfl ?_
        refine RW.neqI rfl rfl rfl ?_
        refine RW.nil (EX.seq ?_)
        -- mq: cond
        first | refine CW.condD rfl (fun h2 => ?_) (fun h2 => ?_) | refine CW.cond rfl (fun h2 => ?_) (fun h2 => ?_)
        · skip
          refine CW.seq (CW.region ?_)
          refine RW.move rfl rfl ?_
          refine RW.add rfl rfl rfl (wrap64 (by omega) (by omega)) ?_
          refine RW.move rfl rfl ?_
          refine RW.assign rfl rfl ?_
          refine RW.assign rfl rfl ?_
          refine RW.assign rfl rfl ?_
          refine RW.nil (EX.seq (CW.ret (EX.seqR (EX.bkR (EX.seqR (EX.lpR (EX.bkR (EX.seqR ?_))))))))
          refine EX.fin3 Tryd.results20 rfl rfl rfl (fun wz hw => ?_)
          -- mq: done
          refine ⟨_, rfl, hx13.trans0 hw.ext, ?_⟩
          rw [hsp, hrbad (by omega), addF_err (by omega)]
          exact ⟨none, 0, 0, rfl, Rd.nilSl _ _ _⟩
        · skip
          have hst := hrst (by omega)
          refine CW.skip (EX.seq ?_)
          -- mq: region
          refine CW.sub (H' := SH w3 (feet []) [blk g11 b.cells 26, own 26 17 v O.length (EBlk.all O)]) ?_ (Sub.refl _) (fun x hx => hx.blkEq (by kernel_rfl))
          refine CW.region ?_
          refine RW.move rfl rfl ?_
          refine RW.loadBA ag26 rfl rfl (by first | exact Has.head | exact Has.tail Has.head | exact Has.tail (Has.tail Has.head) | exact Has.tail (Has.tail (Has.tail Has.head)) | exact Has.tail (Has.tail (Has.tail (Has.tail Has.head))) | exact Has.tail (Has.tail (Has.tail (Has.tail (Has.tail Has.head)))) | exact Has.tail (Has.tail (Has.tail (Has.tail (Has.tail (Has.tail Has.head)))))) rfl rfl ?_
          refine RW.buildSlc (out := b.cells) sl28 rfl rfl rfl (by kernel_rfl) (fun g51 hg51 hf51 => ?_)
          refine RW.append1 sl28 rfl rfl rfl Rem.head (fun _ => Upd.tail Upd.head) rfl (Enc.ones EBlk b) (by simp only [maxLen]; omega) (by omega) (fun v52 hv52 => ?_)
          refine RW.assign rfl rfl ?_
          refine RW.nil (EX.bkN (EX.seq (CW.region ?_)))
          refine RW.add rfl rfl rfl (wrap64 (by omega) (by omega)) ?_
          refine RW.move rfl rfl ?_
          refine RW.nil ?_
          -- mq: loopend
          refine EX.lpN (v52, O ++ [b], i + 1, some post) ⟨by dsimp only; omega, by dsimp only; simp; omega, hnx, by rw [hsp, hst], by omega⟩ (by dsimp only; omega) (by repeat (first | exact Sub.nil | refine Sub.cons (by rfl) ?_)) (fun w' hw' => ?_)
          dsimp only
          rw [Enc.all_snoc EBlk, List.length_append]
          exact hw'.rem Rem.head
      · skip
        have hct := afterL_out h10
        have hLi : (afterL 10 s)[i]? = some t := by
          have := congrArg (fun l => l[0]?) (hd.trans hct)
          rw [List.getElem?_drop] at this
          exact this
        have hin : i + 1 = n := by
          have := congrArg List.length (hd.trans hct)
          rw [List.length_drop, List.length_singleton] at this
          omega
        obtain ⟨ad, hA, had, hcl⟩ := hrd.at_ hLi
        refine CW.skip (EX.seq (CW.seq (CW.block (CW.seq (CW.region ?_)))))
        refine RW.move rfl rfl ?_
        refine RW.ixAddr (q := i) sl33 rfl rfl rfl (by first | rfl | assumption) (by omega) (by omega) ?_
        refine RW.load1 sc9 rfl rfl (fun w' hw' => hw'.base_cell (hcl 0 _ rfl) (by simp [feet])) ?_
        refine RW.assign rfl rfl ?_
        refine RW.assign rfl rfl ?_
        refine RW.nil (EX.seq (CW.seq ?_))
        -- mq: region
        refine CW.region ?_
        refine RW.move rfl rfl ?_
        refine RW.call (v := .tuple #[.string (bs t), .bool false]) rfl caCutSuffix rfl (fun w' _ => by have h := cutSuffix_c w' t [10] (by omega) (by decide); rw [sufB_no h10, if_neg (by decide)] at h; exact h) ?_
        refine RW.move rfl rfl ?_
        refine RW.extract rfl rfl rfl ?_
        refine RW.extract rfl rfl rfl ?_
        refine RW.assign rfl rfl ?_
        refine RW.assign rfl rfl ?_
        refine RW.nil (EX.seq (CW.seq (CW.block (CW.seq (CW.region ?_)))))
        refine RW.move rfl rfl ?_
        refine RW.not_ rfl rfl ?_
        refine RW.move rfl rfl ?_
        refine RW.guardT rfl rfl rfl ?_
        refine RW.move rfl rfl ?_
        refine RW.guardT rfl rfl rfl ?_
        refine RW.eqlS rfl rfl rfl ?_
        refine RW.pickB rfl rfl rfl rfl ?_
        refine RW.assign rfl rfl ?_
        refine RW.nil (EX.seq ?_)
        -- mq: cond
        first | refine CW.condD rfl (fun h0 => ?_) (fun h0 => ?_) | refine CW.cond rfl (fun h0 => ?_) (fun h0 => ?_)
        · skip
          obtain rfl : t = [] := h0
          refine CW.exit (EX.bkO rfl (EX.seqE (EX.bkE (EX.seq (CW.region ?_)))))
          refine RW.add rfl rfl rfl (wrap64 (by omega) (by omega)) ?_
          refine RW.move rfl rfl ?_
          refine RW.nil ?_
          -- mq: loopend
          refine EX.lpN (v, O, i + 1, none) ⟨by dsimp only; omega, by dsimp only; omega, hin, by rw [hsp, readF_nil, addF_ok]⟩ (by dsimp only; omega) (by repeat (first | exact Sub.nil | refine Sub.cons (by rfl) ?_)) (fun w' hw' => hw')
        · skip
          refine CW.seq (CW.region ?_)
          refine RW.move rfl rfl ?_
          refine RW.not_ rfl rfl ?_
          refine RW.assign rfl rfl ?_
          refine RW.nil (EX.seq ?_)
          -- mq: cond
          refine CW.condT rfl (rfl) ?_
          refine CW.seq (CW.region ?_)
          refine RW.move rfl rfl ?_
          refine RW.add rfl rfl rfl (wrap64 (by omega) (by omega)) ?_
          refine RW.assign rfl rfl ?_
          refine RW.assign rfl rfl ?_
          refine RW.assign rfl rfl ?_
          refine RW.nil (EX.seq (CW.ret (EX.bkR (EX.seqR (EX.bkR (EX.seqR (EX.lpR (EX.bkR (EX.seqR ?_)))))))))
          refine EX.fin3 Tryd.results20 rfl rfl rfl (fun wz hw => ?_)
          -- mq: done
          refine ⟨_, rfl, hx13.trans0 hw.ext, ?_⟩
          rw [hsp, readF_none h0 h10, addF_err (by decide)]
          exact ⟨none, 0, 0, rfl, Rd.nilSl _ _ _⟩
    · skip
      have hin : i = n := by omega
      have hsp2 : readF 1 s = (O, 0, 0) := by
        cases t with
        | none => exact hsp.2
        | some t =>
          have h9 := hsp.1
          rw [List.drop_eq_nil_of_le (by omega)] at h9
          exact absurd h9.symm (afterL_ne _ _)
      refine CW.exit (EX.seqE (EX.lpE (EX.bkE (EX.seq (CW.seq (CW.region ?_))))))
      refine RW.move rfl rfl ?_
      refine RW.assign rfl rfl ?_
      refine RW.assign rfl rfl ?_
      refine RW.assign rfl rfl ?_
      refine RW.nil (EX.seq (CW.ret ?_))
      refine EX.fin3 Tryd.results20 rfl rfl rfl (fun wz hw => ?_)
      -- mq: done
      have hcv := hw.cov
      obtain ⟨A7, c7, hv7, hrd7⟩ := Rd.of_own (E := EBlk) (hw.has Has.head) rfl
      refine ⟨_, rfl, hx13.trans0 hw.ext, ?_⟩
      rw [hsp2]
      subst hv7
      exact ⟨A7, O.length, c7, rfl, hrd7.weak fun k hk => Nat.le_of_not_lt fun hlt => by have h3 := hx13.size; have := hcv k (by simp [feet, own, hk]) (by omega); simp [feet] at this⟩
theorem Same_c (w : World) (F1 F2 : Nat → Prop) (A1 A2 : Option Addr) (n1 c1 n2 c2 : Nat) (L1 L2 : List BlkV) (h1 : Rd EBlk w F1 A1 n1 c1 L1) (h2 : Rd EBlk w F2 A2 n2 c2 L2) :
    Calls Tryd.prog 21 [.slice A1 n1 c1, .slice A2 n2 c2].toArray w (fun e w' => e = .returned (.bool (decide (L1 = L2))) ∧ Ext [] w w') := by
  have hl1 := h1.len
  have hl2 := h2.len
  have hc1 := h1.cap
  have hc2 := h2.cap
  have hm1 := h1.max
  have hm2 := h2.max
  simp only [maxLen] at hm1 hm2
  refine calls (n := 26) Tryd.func21 rfl Tryd.ntmps21 rfl ?_
  refine CW.sub (H' := SH w [] []) ?_ (Sub.refl _) (fun x hx => SH.start' _ _ hx)
  refine CW.seq (CW.region ?_)
  refine RW.assign rfl rfl ?_
  refine RW.nil (EX.seq (CW.seq (CW.seq (CW.region ?_))))
  refine RW.move rfl rfl ?_
  refine RW.lenSl Tryd.underlying28 rfl rfl ?_
  refine RW.move rfl rfl ?_
  refine RW.lenSl Tryd.underlying28 rfl rfl ?_
  refine RW.neqI rfl rfl rfl ?_
  refine RW.nil (EX.seq ?_)
  -- mq: cond
  first | refine CW.condD rfl (fun h0 => ?_) (fun h0 => ?_) | refine CW.cond rfl (fun h0 => ?_) (fun h0 => ?_)
  · skip
    refine CW.seq (CW.region ?_)
    refine RW.assign rfl rfl ?_
    refine RW.nil (EX.seq (CW.ret (EX.seqR ?_)))
    refine EX.fin1 Tryd.results21 rfl (fun wz hw => ?_)
    -- mq: done
    exact ⟨by rw [decide_eq_false (fun e => by subst e; omega)], hw.ext⟩
  · skip
    have hll : L1.length = L2.length := by omega
    refine CW.skip (EX.seq (CW.seq (CW.seq (CW.region ?_))))
    refine RW.assign rfl rfl ?_
    refine RW.nil (EX.seq (CW.block ?_))
    -- mq: loop
    refine CW.loop (ι := Nat) (fun i => [(0, .slice A1 n1 c1), (1, .slice A2 n2 c2), (5, .int .i64 (i : Int))]) (fun _ => SH w [] []) (fun i => i ≤ n1 ∧ ∀ j, j < i → L1[j]? = L2[j]?) (fun i => n1 - i) ?_ ?_
    · exact fun w' hw' => ⟨0, ⟨Nat.zero_le _, fun j hj => absurd hj (Nat.not_lt_zero _)⟩, (by repeat (first | exact Sub.nil | refine Sub.cons (by rfl) ?_)), hw'⟩
    · rintro i ⟨hi, hsame⟩
      refine CW.seq (CW.seq (CW.region ?_))
      refine RW.move rfl rfl ?_
      refine RW.move rfl rfl ?_
      refine RW.lenSl Tryd.underlying28 rfl rfl ?_
      refine RW.lss rfl rfl rfl ?_
      refine RW.nil (EX.seq ?_)
      -- mq: cond
      first | refine CW.condD rfl (fun hlt => ?_) (fun hlt => ?_) | refine CW.cond rfl (fun hlt => ?_) (fun hlt => ?_)
      · skip
        obtain ⟨a, ha⟩ : ∃ a, L1[i]? = some a := ⟨L1[i]'(by omega), List.getElem?_eq_getElem _⟩
        obtain ⟨b, hb⟩ : ∃ b, L2[i]? = some b := ⟨L2[i]'(by omega), List.getElem?_eq_getElem _⟩
        obtain ⟨ad1, hA1, _, hcl1⟩ := h1.at_ ha
        obtain ⟨ad2, hA2, _, hcl2⟩ := h2.at_ hb
        refine CW.skip (EX.seq (CW.seq (CW.block (CW.seq ?_))))
        -- mq: region
        refine CW.drawU [0, 1, 2, 3, 4, 5, 6, 7, 8] 0 [[]] (SH w [] []) mixed (by kernel_rfl) (fun _ hw => hw.drew) (fun _ h => (by first | trivial | exact h | exact h.ch | exact (h.rem Rem.head).ch | exact ((h.rem Rem.head).rem Rem.head).ch | exact (((h.rem Rem.head).rem Rem.head).rem Rem.head).ch)) ?_
        refine QuP.cons rfl (fun wq hq => (RW.move rfl rfl RW.jn)) ?_
        refine QuP.cons rfl (fun wq hq => (RW.move rfl rfl RW.jn)) ?_
        refine QuP.cons rfl (fun wq hq => (RW.ixAddr (q := i) sl28 rfl rfl rfl (by first | rfl | assumption) (by omega) (by omega) RW.jn)) ?_
        refine QuP.cons rfl (fun wq hq => (RW.loadA ag26 rfl rfl (rfl) (fun w1 e1 j u hj => by subst e1; exact (hq.base_cell (hcl1 j u hj) (by simp))) RW.jn)) ?_
        refine QuP.cons rfl (fun wq hq => (RW.move rfl rfl RW.jn)) ?_
        refine QuP.cons rfl (fun wq hq => (RW.move rfl rfl RW.jn)) ?_
        refine QuP.cons rfl (fun wq hq => (RW.ixAddr (q := i) sl28 rfl rfl rfl (by first | rfl | assumption) (by omega) (by omega) RW.jn)) ?_
        refine QuP.cons rfl (fun wq hq => (RW.loadA ag26 rfl rfl (rfl) (fun w1 e1 j u hj => by subst e1; exact (hq.base_cell (hcl2 j u hj) (by simp))) RW.jn)) ?_
        refine QuP.cons rfl (fun wq hq => (RW.neqSt eq26 rfl rfl rfl (by kernel_rfl) (heqB a b) RW.jn)) ?_
        refine QuP.nil ?_
        refine UW.nil (EX.seq ?_)
        -- mq: cond
        first | refine CW.condD rfl (fun hne => ?_) (fun hne => ?_) | refine CW.cond rfl (fun hne => ?_) (fun hne => ?_)
        · skip
          refine CW.seq (CW.region ?_)
          refine RW.assign rfl rfl ?_
          refine RW.nil (EX.seq (CW.ret (EX.bkR (EX.seqR (EX.lpR (EX.bkR (EX.seqR ?_)))))))
          refine EX.fin1 Tryd.results21 rfl (fun wz hw => ?_)
          -- mq: done
          exact ⟨by rw [decide_eq_false (fun e => by subst e; rw [ha] at hb; rw [decide_eq_true (Option.some.inj hb)] at hne; cases hne)], hw.ext⟩
        · skip
          have hab : a = b := by by_cases h : a = b; exact h; rw [decide_eq_false h] at hne; cases hne
          refine CW.skip (EX.bkN (EX.seq (CW.region ?_)))
          refine RW.move rfl rfl ?_
          refine RW.add rfl rfl rfl (wrap64 (by omega) (by omega)) ?_
          refine RW.assign rfl rfl ?_
          refine RW.nil ?_
          -- mq: loopend
          refine EX.lpN (i + 1) ⟨by omega, fun j hj => ?_⟩ (by omega) (by repeat (first | exact Sub.nil | refine Sub.cons (by rfl) ?_)) (fun w' hw' => hw')
          rcases Nat.lt_succ_iff_lt_or_eq.1 hj with h | rfl
          · exact hsame j h
          · rw [ha, hb, hab]
      · skip
        have hLL : L1 = L2 := List.ext_getElem? fun j => by
          rcases Nat.lt_or_ge j i with h | h
          · exact hsame j h
          · rw [List.getElem?_eq_none (by omega), List.getElem?_eq_none (by omega)]
        refine CW.exit (EX.seqE (EX.lpE (EX.bkE (EX.seq (CW.seq (CW.region ?_))))))
        refine RW.assign rfl rfl ?_
        refine RW.nil (EX.seq (CW.ret ?_))
        refine EX.fin1 Tryd.results21 rfl (fun wz hw => ?_)
        -- mq: done
        exact ⟨by rw [decide_eq_true hLL], hw.ext⟩
end Go.Proofs.YtnkdabjahmjdoaaDoor.Mq
