/- osc: fields, short, text, open, done, shell, Read, Write -/
import Derived.Test.YtemcblinkicblaaDoorO2
import Derived.Test.YtemcblinkicblaaDoorSpl
namespace Go.Proofs.YtemcblinkicblaaDoor.Mq
open Go Go.RowKit Go.Proofs

theorem SH.blkEq {b : World} {S : List Nat} {cs : List Chunk} {w : World} {g t : Nat} {xs ys : List Value} (h : SH b S (blk g xs t :: cs) w) (e : xs = ys) : SH b S (blk g ys t :: cs) w := e ▸ h
theorem SH.csEq {b : World} {S : List Nat} {cs cs' : List Chunk} {w : World} (h : SH b S cs w) (e : cs = cs') : SH b S cs' w := e ▸ h
theorem textS_len (k : Int) (s : List UInt8) : (textS k s).text.length ≤ 256 := by
  show (s.take 256).length ≤ 256
  rw [List.length_take]; omega
theorem short_c (w : World) (s : List UInt8) (hs : s.length ≤ 1000000) :
    Calls Tryd.prog 45 [.string (bs s)].toArray w (fun e w' => e = .returned (.string (bs (s.take 256))) ∧ Ext [] w w') := by
  refine calls (n := 8) Tryd.func45 rfl Tryd.ntmps45 rfl ?_
  refine CW.sub (H' := SH w [] []) ?_ (Sub.refl _) (fun x hx => SH.start' _ _ hx)
  refine CW.seq (CW.region ?_)
  refine RW.assign rfl rfl ?_
  refine RW.nil (EX.seq (CW.seq ?_))
  -- mq: region
  refine CW.region ?_
  refine RW.move rfl rfl ?_
  refine RW.move rfl rfl ?_
  refine RW.lenS Tryd.underlying9 rfl rfl ?_
  refine RW.min2 rfl rfl rfl ?_
  refine RW.sliceStrH (min s.length 256) Tryd.underlying9 rfl rfl rfl (by first | rfl | omega) (by first | omega | (simp; done) | (simp; omega)) ?_
  refine RW.assign rfl rfl ?_
  refine RW.nil (EX.seq (CW.ret ?_))
  refine EX.fin1 Tryd.results45 rfl (fun wz hw => ?_)
  -- mq: done
  refine ⟨?_, hw.ext⟩
  have e : s.take (min s.length 256) = s.take 256 := by
    rcases Nat.le_total s.length 256 with h | h
    · rw [Nat.min_eq_left h, List.take_of_length_le (Nat.le_refl _), List.take_of_length_le h]
    · rw [Nat.min_eq_right h]
  rw [e]
theorem text_c (w : World) (k : Int) (s : List UInt8) (hs : s.length ≤ 1000000) :
    Calls Tryd.prog 24 [.int .i64 k, .string (bs s)].toArray w (fun e w' => e = .returned (.agg (textS k s).cells.toArray) ∧ Ext [] w w') := by
  refine calls (n := 9) Tryd.func24 rfl Tryd.ntmps24 rfl ?_
  refine CW.sub (H' := SH w [] []) ?_ (Sub.refl _) (fun x hx => SH.start' _ _ hx)
  refine CW.seq (CW.region ?_)
  refine RW.allocA ag24 rfl (fun g4 hg4 hf4 => ?_)
  refine RW.nil (EX.seq (CW.seq ?_))
  -- mq: region
  refine CW.region ?_
  refine RW.move rfl rfl ?_
  refine RW.move rfl rfl ?_
  refine RW.call rfl ca45 rfl (fun w' _ => short_c w' s hs) ?_
  refine RW.buildS bu24 rfl rfl rfl ?_
  refine RW.storeA ag24 rfl rfl (by first | exact Upd.head | exact Upd.tail Upd.head | exact Upd.tail (Upd.tail Upd.head) | exact Upd.tail (Upd.tail (Upd.tail Upd.head)) | exact Upd.tail (Upd.tail (Upd.tail (Upd.tail Upd.head))) | exact Upd.tail (Upd.tail (Upd.tail (Upd.tail (Upd.tail Upd.head)))) | exact Upd.tail (Upd.tail (Upd.tail (Upd.tail (Upd.tail (Upd.tail Upd.head)))))) (by first | rfl | exact Enc.len _ _) (by repeat (first | exact Ones.nil | exact Enc.ones _ _ | refine Ones.cons rfl ?_)) (by first | exact Nat.le_of_ble_eq_true rfl | (simp only [Enc.len]; decide)) ?_
  refine RW.nil (EX.seq (CW.ret ?_))
  refine EX.fin1' Tryd.results24 (RV.cellA ag24 rfl (by first | exact Has.head | exact Has.tail Has.head | exact Has.tail (Has.tail Has.head) | exact Has.tail (Has.tail (Has.tail Has.head)) | exact Has.tail (Has.tail (Has.tail (Has.tail Has.head))) | exact Has.tail (Has.tail (Has.tail (Has.tail (Has.tail Has.head)))) | exact Has.tail (Has.tail (Has.tail (Has.tail (Has.tail (Has.tail Has.head)))))) rfl rfl) (fun wz hw => ?_)
  -- mq: done
  exact ⟨rfl, hw.ext⟩
def fieldV (L : List (List UInt8)) (i : Nat) : Value := .tuple #[.string (bs (L.getD i [])), .bool (decide (i < L.length))]
theorem field_c (w : World) (F : Nat → Prop) (A : Option Addr) (n c : Nat) (L : List (List UInt8)) (hr : Rd EStr w F A n c L) (i : Nat) :
    Calls Tryd.prog 21 [.slice A n c, .int .i64 (i : Int)].toArray w (fun e w' => e = .returned (fieldV L i) ∧ Ext [] w w') := by
  have hl := hr.len
  refine calls (n := 14) Tryd.func21 rfl Tryd.ntmps21 rfl ?_
  refine CW.sub (H' := SH w [] []) ?_ (Sub.refl _) (fun x hx => SH.start' _ _ hx)
  refine CW.seq (CW.region ?_)
  refine RW.assign rfl rfl ?_
  refine RW.assign rfl rfl ?_
  refine RW.nil (EX.seq (CW.seq (CW.seq (CW.region ?_))))
  refine RW.move rfl rfl ?_
  refine RW.move rfl rfl ?_
  refine RW.lenSl Tryd.underlying34 rfl rfl ?_
  refine RW.geq rfl rfl rfl ?_
  refine RW.nil (EX.seq ?_)
  -- mq: cond
  first | refine CW.condD rfl (fun h1 => ?_) (fun h1 => ?_) | refine CW.cond rfl (fun h1 => ?_) (fun h1 => ?_)
  · skip
    refine CW.seq (CW.region ?_)
    refine RW.assign rfl rfl ?_
    refine RW.assign rfl rfl ?_
    refine RW.nil (EX.seq (CW.ret (EX.seqR ?_)))
    refine EX.fin2 Tryd.results21 rfl rfl (fun wz hw => ?_)
    -- mq: done
    exact ⟨by rw [fieldV, decide_eq_false (by omega), List.getD_eq_getElem?_getD, List.getElem?_eq_none (by omega)]; rfl, hw.ext⟩
  · skip
    obtain ⟨x, hx⟩ : ∃ x, L[i]? = some x := ⟨L[i]'(by omega), List.getElem?_eq_getElem _⟩
    obtain ⟨ad, hA, _, hcl⟩ := hr.at_ hx
    refine CW.skip (EX.seq (CW.seq (CW.region ?_)))
    refine RW.move rfl rfl ?_
    refine RW.move rfl rfl ?_
    refine RW.ixAddr (q := i) sl34 rfl rfl rfl (by first | rfl | assumption) (by omega) (by omega) ?_
    refine RW.load1 sc9 rfl rfl (fun w' hw' => hw'.base_cell (hcl 0 _ rfl) (by simp)) ?_
    refine RW.assign rfl rfl ?_
    refine RW.assign rfl rfl ?_
    refine RW.nil (EX.seq (CW.ret ?_))
    refine EX.fin2 Tryd.results21 rfl rfl (fun wz hw => ?_)
    -- mq: done
    exact ⟨by rw [fieldV, decide_eq_true (by omega), List.getD_eq_getElem?_getD, hx]; rfl, hw.ext⟩
/-- a payload's reader: its fields as a slice, what is behind the first, whether there is -/
def IsRdr (s : List UInt8) (w0 : World) (v : Value) (w1 : World) : Prop := ∃ A n c, v = .agg #[.slice A n c, .string (bs (restF s)), .bool (decide (59 ∈ s))] ∧ Rd EStr w1 (fun k => w0.heap.size ≤ k) A n c (fullP 59 s)
theorem restF_len (s : List UInt8) : (restF s).length ≤ s.length := by
  unfold restF
  split
  · rw [List.length_drop]
    have := (List.dropWhile_sublist (fun x : UInt8 => decide (x ≠ 59)) (l := s)).length_le
    omega
  · exact Nat.zero_le _
theorem cut_rest (s : List UInt8) : ∃ x, cutV s 59 = .tuple #[.string x, .string (bs (restF s)), .bool (decide (59 ∈ s))] := by
  unfold cutV restF
  by_cases h : 59 ∈ s
  · rw [if_pos h, if_pos h, decide_eq_true h]; exact ⟨_, rfl⟩
  · rw [if_neg h, if_neg h, decide_eq_false h]; exact ⟨_, rfl⟩
theorem open_c (w : World) (hg : Gm w) (s : List UInt8) (hs : s.length ≤ 1000000) :
    Calls Tryd.prog 20 [.string (bs s)].toArray w (RetA (IsRdr s w) w) := by
  obtain ⟨x, hx⟩ := cut_rest s
  refine calls (n := 17) Tryd.func20 rfl Tryd.ntmps20 rfl ?_
  refine CW.sub (H' := SH w [] []) ?_ (Sub.refl _) (fun x hx => SH.start' _ _ hx)
  refine CW.seq (CW.region ?_)
  refine RW.allocA ag36 rfl (fun g2 hg2 hf2 => ?_)
  refine RW.nil (EX.seq (CW.seq ?_))
  -- mq: region
  refine CW.region ?_
  refine RW.move rfl rfl ?_
  refine RW.call (v := .tuple #[.string x, .string (bs (restF s)), .bool (decide (59 ∈ s))]) rfl ca39 rfl (fun w' _ => by have h := Cut_c w' s 59 hs; rw [hx] at h; exact h) ?_
  refine RW.move rfl rfl ?_
  refine RW.extract rfl rfl rfl ?_
  refine RW.extract rfl rfl rfl ?_
  refine RW.extract rfl rfl rfl ?_
  refine RW.assign rfl rfl ?_
  refine RW.assign rfl rfl ?_
  refine RW.assign rfl rfl ?_
  refine RW.nil (EX.seq (CW.seq ?_))
  -- mq: region
  refine CW.region ?_
  refine RW.move rfl rfl ?_
  -- mq: at
  refine RW.callK rfl caSplit rfl (fun w' hw' => split_c w' (hg.ext hw'.ext) s 59 hs) (fun w2 w3 A4 n4 c4 hw2 he23 hw3 hlt3 hrd4 => ?_)
  have hx13 : Ext [] w w3 := hw2.ext.trans0 he23
  have hcv := hw2.cov
  refine RW.move rfl rfl ?_
  refine RW.move rfl rfl ?_
  refine RW.buildS bu36 rfl rfl rfl ?_
  refine RW.storeA ag36 rfl rfl (by first | exact Upd.head | exact Upd.tail Upd.head | exact Upd.tail (Upd.tail Upd.head) | exact Upd.tail (Upd.tail (Upd.tail Upd.head)) | exact Upd.tail (Upd.tail (Upd.tail (Upd.tail Upd.head))) | exact Upd.tail (Upd.tail (Upd.tail (Upd.tail (Upd.tail Upd.head)))) | exact Upd.tail (Upd.tail (Upd.tail (Upd.tail (Upd.tail (Upd.tail Upd.head)))))) (by first | rfl | exact Enc.len _ _) (by repeat (first | exact Ones.nil | exact Enc.ones _ _ | refine Ones.cons rfl ?_)) (by first | exact Nat.le_of_ble_eq_true rfl | (simp only [Enc.len]; decide)) ?_
  refine RW.nil (EX.seq (CW.ret ?_))
  refine EX.fin1' Tryd.results20 (RV.cellA ag36 rfl (by first | exact Has.head | exact Has.tail Has.head | exact Has.tail (Has.tail Has.head) | exact Has.tail (Has.tail (Has.tail Has.head)) | exact Has.tail (Has.tail (Has.tail (Has.tail Has.head))) | exact Has.tail (Has.tail (Has.tail (Has.tail (Has.tail Has.head)))) | exact Has.tail (Has.tail (Has.tail (Has.tail (Has.tail (Has.tail Has.head)))))) rfl rfl) (fun wz hw => ?_)
  -- mq: done
  exact ⟨_, rfl, hx13.trans hw.ext hcv, A4, n4, c4, rfl, (hrd4.ext hw.ext (fun k hk hk2 => by have := hlt3 k hk2; omega)).weak (fun k hk => Nat.le_trans hw2.ext.size hk)⟩
def doneF (L : List (List UInt8)) : SgV := if 2 < L.length then ⟨4, (codeF (L.getD 2 [])).1, (codeF (L.getD 2 [])).2, []⟩ else kindS 4
theorem getD_le {L : List (List UInt8)} {m : Nat} (h : ∀ x ∈ L, x.length ≤ m) (i : Nat) : (L.getD i []).length ≤ m := by
  rw [List.getD_eq_getElem?_getD]
  cases hx : L[i]? with
  | none => exact Nat.zero_le _
  | some x => exact h x (List.mem_of_getElem? hx)
theorem done_c (w : World) (F : Nat → Prop) (A : Option Addr) (n c : Nat) (L : List (List UInt8)) (hr : Rd EStr w F A n c L) (rest : ByteArray) (more : Bool) (hm : ∀ x ∈ L, x.length ≤ 1000000) :
    Calls Tryd.prog 41 [.agg #[.slice A n c, .string rest, .bool more]].toArray w (fun e w' => e = .returned (.agg (doneF L).cells.toArray) ∧ Ext [] w w') := by
  refine calls (n := 22) Tryd.func41 rfl Tryd.ntmps41 rfl ?_
  refine CW.sub (H' := SH w [] []) ?_ (Sub.refl _) (fun x hx => SH.start' _ _ hx)
  refine CW.seq (CW.region ?_)
  refine RW.boxA rfl rfl (fun g1 hg1 hf1 => ?_)
  refine RW.allocA ag24 rfl (fun g2 hg2 hf2 => ?_)
  refine RW.nil (EX.seq (CW.seq ?_))
  -- mq: region
  refine CW.region ?_
  refine RW.buildS bu24 rfl rfl rfl ?_
  refine RW.allocA ag24 rfl (fun g3 hg3 hf3 => ?_)
  refine RW.storeA ag24 rfl rfl (by first | exact Upd.head | exact Upd.tail Upd.head | exact Upd.tail (Upd.tail Upd.head) | exact Upd.tail (Upd.tail (Upd.tail Upd.head)) | exact Upd.tail (Upd.tail (Upd.tail (Upd.tail Upd.head))) | exact Upd.tail (Upd.tail (Upd.tail (Upd.tail (Upd.tail Upd.head)))) | exact Upd.tail (Upd.tail (Upd.tail (Upd.tail (Upd.tail (Upd.tail Upd.head)))))) (by first | rfl | exact Enc.len _ _) (by repeat (first | exact Ones.nil | exact Enc.ones _ _ | refine Ones.cons rfl ?_)) (by first | exact Nat.le_of_ble_eq_true rfl | (simp only [Enc.len]; decide)) ?_
  refine RW.nil (EX.seq (CW.seq (CW.seq ?_)))
  -- mq: region
  refine CW.sub (H' := SH w [] [blk g3 (kindS 4).cells 24, blk g2 (kindS 0).cells 24, blk g1 [.slice A n c, .string rest, .bool more] 36]) ?_ (Sub.refl _) (fun x hx => hx.csEq (by kernel_rfl))
  refine CW.region ?_
  refine RW.fieldB fl36x0 rfl rfl ?_
  refine RW.loadB1 sc34 rfl rfl (by first | exact Has.head | exact Has.tail Has.head | exact Has.tail (Has.tail Has.head) | exact Has.tail (Has.tail (Has.tail Has.head)) | exact Has.tail (Has.tail (Has.tail (Has.tail Has.head))) | exact Has.tail (Has.tail (Has.tail (Has.tail (Has.tail Has.head)))) | exact Has.tail (Has.tail (Has.tail (Has.tail (Has.tail (Has.tail Has.head)))))) rfl ?_
  refine RW.call rfl ca21 rfl (fun w' hw' => field_c w' F A n c L (hr.ext hw'.ext (by simp)) 2) ?_
  refine RW.move rfl rfl ?_
  refine RW.extract rfl rfl rfl ?_
  refine RW.extract rfl rfl rfl ?_
  refine RW.assign rfl rfl ?_
  refine RW.assign rfl rfl ?_
  refine RW.nil (EX.seq (CW.seq (CW.region ?_)))
  refine RW.move rfl rfl ?_
  refine RW.nil (EX.seq ?_)
  -- mq: cond
  first | refine CW.condD rfl (fun h2 => ?_) (fun h2 => ?_) | refine CW.cond rfl (fun h2 => ?_) (fun h2 => ?_)
  · skip
    refine CW.region ?_
    refine RW.move rfl rfl ?_
    refine RW.call rfl ca12 rfl (fun w' _ => Code_c w' (L.getD 2 []) (getD_le hm 2)) ?_
    refine RW.move rfl rfl ?_
    refine RW.extract rfl rfl rfl ?_
    refine RW.extract rfl rfl rfl ?_
    refine RW.fieldB fl24x1 rfl rfl ?_
    refine RW.store1 sc3 rfl rfl (by first | exact Upd.head | exact Upd.tail Upd.head | exact Upd.tail (Upd.tail Upd.head) | exact Upd.tail (Upd.tail (Upd.tail Upd.head)) | exact Upd.tail (Upd.tail (Upd.tail (Upd.tail Upd.head))) | exact Upd.tail (Upd.tail (Upd.tail (Upd.tail (Upd.tail Upd.head)))) | exact Upd.tail (Upd.tail (Upd.tail (Upd.tail (Upd.tail (Upd.tail Upd.head)))))) rfl (by first | exact Nat.le_of_ble_eq_true rfl | simp) ?_
    refine RW.fieldB fl24x2 rfl rfl ?_
    refine RW.store1 sc4 rfl rfl (by first | exact Upd.head | exact Upd.tail Upd.head | exact Upd.tail (Upd.tail Upd.head) | exact Upd.tail (Upd.tail (Upd.tail Upd.head)) | exact Upd.tail (Upd.tail (Upd.tail (Upd.tail Upd.head))) | exact Upd.tail (Upd.tail (Upd.tail (Upd.tail (Upd.tail Upd.head)))) | exact Upd.tail (Upd.tail (Upd.tail (Upd.tail (Upd.tail (Upd.tail Upd.head)))))) rfl (by first | exact Nat.le_of_ble_eq_true rfl | simp) ?_
    refine RW.nil (EX.seq (CW.seq ?_))
    -- mq: region
    refine CW.sub (H' := SH w [] [blk g3 (doneF L).cells 24, blk g2 (kindS 0).cells 24, blk g1 [.slice A n c, .string rest, .bool more] 36]) ?_ (Sub.refl _) (fun x hx => hx.csEq (by rw [doneF, if_pos h2]; rfl))
    refine CW.region ?_
    refine RW.loadBA ag24 rfl rfl (by first | exact Has.head | exact Has.tail Has.head | exact Has.tail (Has.tail Has.head) | exact Has.tail (Has.tail (Has.tail Has.head)) | exact Has.tail (Has.tail (Has.tail (Has.tail Has.head))) | exact Has.tail (Has.tail (Has.tail (Has.tail (Has.tail Has.head)))) | exact Has.tail (Has.tail (Has.tail (Has.tail (Has.tail (Has.tail Has.head)))))) rfl rfl ?_
    refine RW.storeA ag24 rfl rfl (by first | exact Upd.head | exact Upd.tail Upd.head | exact Upd.tail (Upd.tail Upd.head) | exact Upd.tail (Upd.tail (Upd.tail Upd.head)) | exact Upd.tail (Upd.tail (Upd.tail (Upd.tail Upd.head))) | exact Upd.tail (Upd.tail (Upd.tail (Upd.tail (Upd.tail Upd.head)))) | exact Upd.tail (Upd.tail (Upd.tail (Upd.tail (Upd.tail (Upd.tail Upd.head)))))) (by first | rfl | exact Enc.len _ _) (by repeat (first | exact Ones.nil | exact Enc.ones _ _ | refine Ones.cons rfl ?_)) (by first | exact Nat.le_of_ble_eq_true rfl | (simp only [Enc.len]; decide)) ?_
    refine RW.nil (EX.seq (CW.ret ?_))
    refine EX.fin1' Tryd.results41 (RV.cellA ag24 rfl (by first | exact Has.head | exact Has.tail Has.head | exact Has.tail (Has.tail Has.head) | exact Has.tail (Has.tail (Has.tail Has.head)) | exact Has.tail (Has.tail (Has.tail (Has.tail Has.head))) | exact Has.tail (Has.tail (Has.tail (Has.tail (Has.tail Has.head)))) | exact Has.tail (Has.tail (Has.tail (Has.tail (Has.tail (Has.tail Has.head)))))) rfl rfl) (fun wz hw => ?_)
    -- mq: done
    exact ⟨rfl, hw.ext⟩
  · skip
    refine CW.skip (EX.seq (CW.seq (CW.region ?_)))
    refine RW.loadBA ag24 rfl rfl (by first | exact Has.head | exact Has.tail Has.head | exact Has.tail (Has.tail Has.head) | exact Has.tail (Has.tail (Has.tail Has.head)) | exact Has.tail (Has.tail (Has.tail (Has.tail Has.head))) | exact Has.tail (Has.tail (Has.tail (Has.tail (Has.tail Has.head)))) | exact Has.tail (Has.tail (Has.tail (Has.tail (Has.tail (Has.tail Has.head)))))) rfl rfl ?_
    refine RW.storeA ag24 rfl rfl (by first | exact Upd.head | exact Upd.tail Upd.head | exact Upd.tail (Upd.tail Upd.head) | exact Upd.tail (Upd.tail (Upd.tail Upd.head)) | exact Upd.tail (Upd.tail (Upd.tail (Upd.tail Upd.head))) | exact Upd.tail (Upd.tail (Upd.tail (Upd.tail (Upd.tail Upd.head)))) | exact Upd.tail (Upd.tail (Upd.tail (Upd.tail (Upd.tail (Upd.tail Upd.head)))))) (by first | rfl | exact Enc.len _ _) (by repeat (first | exact Ones.nil | exact Enc.ones _ _ | refine Ones.cons rfl ?_)) (by first | exact Nat.le_of_ble_eq_true rfl | (simp only [Enc.len]; decide)) ?_
    refine RW.nil (EX.seq (CW.ret ?_))
    refine EX.fin1' Tryd.results41 (RV.cellA ag24 rfl (by first | exact Has.head | exact Has.tail Has.head | exact Has.tail (Has.tail Has.head) | exact Has.tail (Has.tail (Has.tail Has.head)) | exact Has.tail (Has.tail (Has.tail (Has.tail Has.head))) | exact Has.tail (Has.tail (Has.tail (Has.tail (Has.tail Has.head)))) | exact Has.tail (Has.tail (Has.tail (Has.tail (Has.tail (Has.tail Has.head)))))) rfl rfl) (fun wz hw => ?_)
    -- mq: done
    exact ⟨by rw [doneF, if_neg h2]; rfl, hw.ext⟩
theorem shell_c (w : World) (hg : Ge w) (F : Nat → Prop) (A : Option Addr) (n c : Nat) (L : List (List UInt8)) (hr : Rd EStr w F A n c L) (rest : ByteArray) (more full : Bool) (hm : ∀ x ∈ L, x.length ≤ 1000000) :
    Calls Tryd.prog 22 [.agg #[.slice A n c, .string rest, .bool more], .bool full].toArray w (fun e w' => e = .returned (.agg (shellF full (L.getD 1 []) (L.getD 2 []) (decide (2 < L.length))).cells.toArray) ∧ Ext [] w w') := by
  have h1m := getD_le hm 1
  have h2m := getD_le hm 2
  have hdn : doneF L = if decide (2 < L.length) = true then ⟨4, (codeF (L.getD 2 [])).1, (codeF (L.getD 2 [])).2, []⟩ else kindS 4 := by
    unfold doneF
    by_cases h : 2 < L.length
    · rw [if_pos h, if_pos (decide_eq_true h)]
    · rw [if_neg h, if_neg (by simpa using h)]
  have hun := unescF_len _ (L.getD 2 []) (Nat.le_refl _)
  refine calls (n := 61) Tryd.func22 rfl Tryd.ntmps22 rfl ?_
  refine CW.sub (H' := SH w [] []) ?_ (Sub.refl _) (fun x hx => SH.start' _ _ hx)
  refine CW.seq (CW.region ?_)
  refine RW.boxA rfl rfl (fun g2 hg2 hf2 => ?_)
  refine RW.allocA ag24 rfl (fun g4 hg4 hf4 => ?_)
  refine RW.nil (EX.seq (CW.seq ?_))
  -- mq: region
  refine CW.region ?_
  refine RW.fieldB fl36x0 rfl rfl ?_
  refine RW.loadB1 sc34 rfl rfl (by first | exact Has.head | exact Has.tail Has.head | exact Has.tail (Has.tail Has.head) | exact Has.tail (Has.tail (Has.tail Has.head)) | exact Has.tail (Has.tail (Has.tail (Has.tail Has.head))) | exact Has.tail (Has.tail (Has.tail (Has.tail (Has.tail Has.head)))) | exact Has.tail (Has.tail (Has.tail (Has.tail (Has.tail (Has.tail Has.head)))))) rfl ?_
  refine RW.call rfl ca21 rfl (fun w' hw' => field_c w' F A n c L (hr.ext hw'.ext (by simp)) 1) ?_
  refine RW.move rfl rfl ?_
  refine RW.extract rfl rfl rfl ?_
  refine RW.extract rfl rfl rfl ?_
  refine RW.assign rfl rfl ?_
  refine RW.assign rfl rfl ?_
  refine RW.nil (EX.seq (CW.seq ?_))
  -- mq: region
  refine CW.region ?_
  refine RW.fieldB fl36x0 rfl rfl ?_
  refine RW.loadB1 sc34 rfl rfl (by first | exact Has.head | exact Has.tail Has.head | exact Has.tail (Has.tail Has.head) | exact Has.tail (Has.tail (Has.tail Has.head)) | exact Has.tail (Has.tail (Has.tail (Has.tail Has.head))) | exact Has.tail (Has.tail (Has.tail (Has.tail (Has.tail Has.head)))) | exact Has.tail (Has.tail (Has.tail (Has.tail (Has.tail (Has.tail Has.head)))))) rfl ?_
  refine RW.call rfl ca21 rfl (fun w' hw' => field_c w' F A n c L (hr.ext hw'.ext (by simp)) 2) ?_
  refine RW.move rfl rfl ?_
  refine RW.extract rfl rfl rfl ?_
  refine RW.extract rfl rfl rfl ?_
  refine RW.assign rfl rfl ?_
  refine RW.assign rfl rfl ?_
  refine RW.nil (EX.seq (CW.seq (CW.seq ?_)))
  -- mq: region
  generalize L.getD 1 [] = two at *
  generalize hth : L.getD 2 [] = three at *
  refine CW.region ?_
  refine RW.move rfl rfl ?_
  refine RW.nil (EX.seq (CW.block (CW.seq (CW.region ?_))))
  refine RW.eqlS rfl rfl rfl ?_
  refine RW.assign rfl rfl ?_
  refine RW.nil (EX.seq ?_)
  -- mq: cond
  first | refine CW.condD rfl (fun hA => ?_) (fun hA => ?_) | refine CW.cond rfl (fun hA => ?_) (fun hA => ?_)
  · skip
    refine CW.seq (CW.region ?_)
    refine RW.buildS bu24 rfl rfl rfl ?_
    refine RW.storeA ag24 rfl rfl (by first | exact Upd.head | exact Upd.tail Upd.head | exact Upd.tail (Upd.tail Upd.head) | exact Upd.tail (Upd.tail (Upd.tail Upd.head)) | exact Upd.tail (Upd.tail (Upd.tail (Upd.tail Upd.head))) | exact Upd.tail (Upd.tail (Upd.tail (Upd.tail (Upd.tail Upd.head)))) | exact Upd.tail (Upd.tail (Upd.tail (Upd.tail (Upd.tail (Upd.tail Upd.head)))))) (by first | rfl | exact Enc.len _ _) (by repeat (first | exact Ones.nil | exact Enc.ones _ _ | refine Ones.cons rfl ?_)) (by first | exact Nat.le_of_ble_eq_true rfl | (simp only [Enc.len]; decide)) ?_
    refine RW.nil (EX.seq (CW.ret (EX.bkR (EX.seqR ?_))))
    refine EX.fin1' Tryd.results22 (RV.cellA ag24 rfl (by first | exact Has.head | exact Has.tail Has.head | exact Has.tail (Has.tail Has.head) | exact Has.tail (Has.tail (Has.tail Has.head)) | exact Has.tail (Has.tail (Has.tail (Has.tail Has.head))) | exact Has.tail (Has.tail (Has.tail (Has.tail (Has.tail Has.head)))) | exact Has.tail (Has.tail (Has.tail (Has.tail (Has.tail (Has.tail Has.head)))))) rfl rfl) (fun wz hw => ?_)
    -- mq: done
    exact ⟨by rw [shellF, if_pos hA]; rfl, hw.ext⟩
  · skip
    refine CW.seq (CW.region ?_)
    refine RW.eqlS rfl rfl rfl ?_
    refine RW.assign rfl rfl ?_
    refine RW.nil (EX.seq ?_)
    -- mq: cond
    first | refine CW.condD rfl (fun hB => ?_) (fun hB => ?_) | refine CW.cond rfl (fun hB => ?_) (fun hB => ?_)
    · skip
      refine CW.seq (CW.region ?_)
      refine RW.buildS bu24 rfl rfl rfl ?_
      refine RW.storeA ag24 rfl rfl (by first | exact Upd.head | exact Upd.tail Upd.head | exact Upd.tail (Upd.tail Upd.head) | exact Upd.tail (Upd.tail (Upd.tail Upd.head)) | exact Upd.tail (Upd.tail (Upd.tail (Upd.tail Upd.head))) | exact Upd.tail (Upd.tail (Upd.tail (Upd.tail (Upd.tail Upd.head)))) | exact Upd.tail (Upd.tail (Upd.tail (Upd.tail (Upd.tail (Upd.tail Upd.head)))))) (by first | rfl | exact Enc.len _ _) (by repeat (first | exact Ones.nil | exact Enc.ones _ _ | refine Ones.cons rfl ?_)) (by first | exact Nat.le_of_ble_eq_true rfl | (simp only [Enc.len]; decide)) ?_
      refine RW.nil (EX.seq (CW.ret (EX.bkR (EX.seqR ?_))))
      refine EX.fin1' Tryd.results22 (RV.cellA ag24 rfl (by first | exact Has.head | exact Has.tail Has.head | exact Has.tail (Has.tail Has.head) | exact Has.tail (Has.tail (Has.tail Has.head)) | exact Has.tail (Has.tail (Has.tail (Has.tail Has.head))) | exact Has.tail (Has.tail (Has.tail (Has.tail (Has.tail Has.head)))) | exact Has.tail (Has.tail (Has.tail (Has.tail (Has.tail (Has.tail Has.head)))))) rfl rfl) (fun wz hw => ?_)
      -- mq: done
      exact ⟨by rw [shellF, if_neg hA, if_pos hB]; rfl, hw.ext⟩
    · skip
      refine CW.seq (CW.region ?_)
      refine RW.eqlS rfl rfl rfl ?_
      refine RW.assign rfl rfl ?_
      refine RW.nil (EX.seq ?_)
      -- mq: cond
      first | refine CW.condD rfl (fun hC => ?_) (fun hC => ?_) | refine CW.cond rfl (fun hC => ?_) (fun hC => ?_)
      · skip
        refine CW.seq (CW.region ?_)
        refine RW.buildS bu24 rfl rfl rfl ?_
        refine RW.storeA ag24 rfl rfl (by first | exact Upd.head | exact Upd.tail Upd.head | exact Upd.tail (Upd.tail Upd.head) | exact Upd.tail (Upd.tail (Upd.tail Upd.head)) | exact Upd.tail (Upd.tail (Upd.tail (Upd.tail Upd.head))) | exact Upd.tail (Upd.tail (Upd.tail (Upd.tail (Upd.tail Upd.head)))) | exact Upd.tail (Upd.tail (Upd.tail (Upd.tail (Upd.tail (Upd.tail Upd.head)))))) (by first | rfl | exact Enc.len _ _) (by repeat (first | exact Ones.nil | exact Enc.ones _ _ | refine Ones.cons rfl ?_)) (by first | exact Nat.le_of_ble_eq_true rfl | (simp only [Enc.len]; decide)) ?_
        refine RW.nil (EX.seq (CW.ret (EX.bkR (EX.seqR ?_))))
        refine EX.fin1' Tryd.results22 (RV.cellA ag24 rfl (by first | exact Has.head | exact Has.tail Has.head | exact Has.tail (Has.tail Has.head) | exact Has.tail (Has.tail (Has.tail Has.head)) | exact Has.tail (Has.tail (Has.tail (Has.tail Has.head))) | exact Has.tail (Has.tail (Has.tail (Has.tail (Has.tail Has.head)))) | exact Has.tail (Has.tail (Has.tail (Has.tail (Has.tail (Has.tail Has.head)))))) rfl rfl) (fun wz hw => ?_)
        -- mq: done
        exact ⟨by rw [shellF, if_neg hA, if_neg hB, if_pos hC]; rfl, hw.ext⟩
      · skip
        refine CW.seq (CW.region ?_)
        refine RW.eqlS rfl rfl rfl ?_
        refine RW.assign rfl rfl ?_
        refine RW.nil (EX.seq ?_)
        -- mq: cond
        first | refine CW.condD rfl (fun hD => ?_) (fun hD => ?_) | refine CW.cond rfl (fun hD => ?_) (fun hD => ?_)
        · skip
          refine CW.seq (CW.region ?_)
          refine RW.loadBA ag36 rfl rfl (by first | exact Has.head | exact Has.tail Has.head | exact Has.tail (Has.tail Has.head) | exact Has.tail (Has.tail (Has.tail Has.head)) | exact Has.tail (Has.tail (Has.tail (Has.tail Has.head))) | exact Has.tail (Has.tail (Has.tail (Has.tail (Has.tail Has.head)))) | exact Has.tail (Has.tail (Has.tail (Has.tail (Has.tail (Has.tail Has.head)))))) rfl rfl ?_
          refine RW.call rfl ca41 rfl (fun w' hw' => done_c w' F A n c L (hr.ext hw'.ext (by simp)) rest more hm) ?_
          refine RW.storeA ag24 rfl rfl (by first | exact Upd.head | exact Upd.tail Upd.head | exact Upd.tail (Upd.tail Upd.head) | exact Upd.tail (Upd.tail (Upd.tail Upd.head)) | exact Upd.tail (Upd.tail (Upd.tail (Upd.tail Upd.head))) | exact Upd.tail (Upd.tail (Upd.tail (Upd.tail (Upd.tail Upd.head)))) | exact Upd.tail (Upd.tail (Upd.tail (Upd.tail (Upd.tail (Upd.tail Upd.head)))))) (by first | rfl | exact Enc.len _ _) (by repeat (first | exact Ones.nil | exact Enc.ones _ _ | refine Ones.cons rfl ?_)) (by first | exact Nat.le_of_ble_eq_true rfl | (simp only [Enc.len]; decide)) ?_
          refine RW.nil (EX.seq (CW.ret (EX.bkR (EX.seqR ?_))))
          refine EX.fin1' Tryd.results22 (RV.cellA ag24 rfl (by first | exact Has.head | exact Has.tail Has.head | exact Has.tail (Has.tail Has.head) | exact Has.tail (Has.tail (Has.tail Has.head)) | exact Has.tail (Has.tail (Has.tail (Has.tail Has.head))) | exact Has.tail (Has.tail (Has.tail (Has.tail (Has.tail Has.head)))) | exact Has.tail (Has.tail (Has.tail (Has.tail (Has.tail (Has.tail Has.head)))))) rfl rfl) (fun wz hw => ?_)
          -- mq: done
          refine ⟨?_, hw.ext⟩
          rw [shellF, if_neg hA, if_neg hB, if_neg hC, if_pos hD, ← hdn]
          rfl
        · skip
          refine CW.seq (CW.region ?_)
          refine RW.eqlS rfl rfl rfl ?_
          refine RW.assign rfl rfl ?_
          refine RW.nil (EX.seq ?_)
          -- mq: cond
          first | refine CW.condD rfl (fun hE => ?_) (fun hE => ?_) | refine CW.cond rfl (fun hE => ?_) (fun hE => ?_)
          · skip
            have hsh : shellF full two three (decide (2 < L.length)) = if full = true ∧ decide (2 < L.length) = true then textS 5 (unescF three) else noneS := by rw [shellF, if_neg hA, if_neg hB, if_neg hC, if_neg hD, if_pos hE]
            refine CW.seq (CW.region ?_)
            refine RW.move rfl rfl ?_
            refine RW.move rfl rfl ?_
            -- mq: guard slot 40
            refine RW.casesB 40 rfl (fun hf => ?_) (fun hf => ?_)
            · skip
              refine RW.guardT rfl rfl hf ?_
              refine RW.move rfl rfl ?_
              refine RW.pickB rfl rfl hf rfl ?_
              refine RW.nil (EX.seq ?_)
              -- mq: cond
              first | refine CW.condD rfl (fun hh => ?_) (fun hh => ?_) | refine CW.cond rfl (fun hh => ?_) (fun hh => ?_)
              · skip
                refine CW.seq (CW.region ?_)
                refine RW.move rfl rfl ?_
                refine RW.call rfl ca16 rfl (fun w' hw' => Unescape_c w' (hg.ext hw'.ext) three h2m) ?_
                refine RW.call rfl ca24 rfl (fun w' _ => text_c w' 5 (unescF three) (by omega)) ?_
                refine RW.storeA ag24 rfl rfl (by first | exact Upd.head | exact Upd.tail Upd.head | exact Upd.tail (Upd.tail Upd.head) | exact Upd.tail (Upd.tail (Upd.tail Upd.head)) | exact Upd.tail (Upd.tail (Upd.tail (Upd.tail Upd.head))) | exact Upd.tail (Upd.tail (Upd.tail (Upd.tail (Upd.tail Upd.head)))) | exact Upd.tail (Upd.tail (Upd.tail (Upd.tail (Upd.tail (Upd.tail Upd.head)))))) (by first | rfl | exact Enc.len _ _) (by repeat (first | exact Ones.nil | exact Enc.ones _ _ | refine Ones.cons rfl ?_)) (by first | exact Nat.le_of_ble_eq_true rfl | (simp only [Enc.len]; decide)) ?_
                refine RW.nil (EX.seq (CW.ret (EX.bkR (EX.seqR ?_))))
                refine EX.fin1' Tryd.results22 (RV.cellA ag24 rfl (by first | exact Has.head | exact Has.tail Has.head | exact Has.tail (Has.tail Has.head) | exact Has.tail (Has.tail (Has.tail Has.head)) | exact Has.tail (Has.tail (Has.tail (Has.tail Has.head))) | exact Has.tail (Has.tail (Has.tail (Has.tail (Has.tail Has.head)))) | exact Has.tail (Has.tail (Has.tail (Has.tail (Has.tail (Has.tail Has.head)))))) rfl rfl) (fun wz hw => ?_)
                -- mq: done
                exact ⟨by rw [hsh, if_pos ⟨hf, decide_eq_true hh⟩]; rfl, hw.ext⟩
              · skip
                refine CW.skip (EX.bkN (EX.seq (CW.seq (CW.region ?_))))
                refine RW.buildS bu24 rfl rfl rfl ?_
                refine RW.storeA ag24 rfl rfl (by first | exact Upd.head | exact Upd.tail Upd.head | exact Upd.tail (Upd.tail Upd.head) | exact Upd.tail (Upd.tail (Upd.tail Upd.head)) | exact Upd.tail (Upd.tail (Upd.tail (Upd.tail Upd.head))) | exact Upd.tail (Upd.tail (Upd.tail (Upd.tail (Upd.tail Upd.head)))) | exact Upd.tail (Upd.tail (Upd.tail (Upd.tail (Upd.tail (Upd.tail Upd.head)))))) (by first | rfl | exact Enc.len _ _) (by repeat (first | exact Ones.nil | exact Enc.ones _ _ | refine Ones.cons rfl ?_)) (by first | exact Nat.le_of_ble_eq_true rfl | (simp only [Enc.len]; decide)) ?_
                refine RW.nil (EX.seq (CW.ret ?_))
                refine EX.fin1' Tryd.results22 (RV.cellA ag24 rfl (by first | exact Has.head | exact Has.tail Has.head | exact Has.tail (Has.tail Has.head) | exact Has.tail (Has.tail (Has.tail Has.head)) | exact Has.tail (Has.tail (Has.tail (Has.tail Has.head))) | exact Has.tail (Has.tail (Has.tail (Has.tail (Has.tail Has.head)))) | exact Has.tail (Has.tail (Has.tail (Has.tail (Has.tail (Has.tail Has.head)))))) rfl rfl) (fun wz hw => ?_)
                -- mq: done
                exact ⟨by rw [hsh, if_neg (fun h => hh (of_decide_eq_true h.2))]; rfl, hw.ext⟩
            · skip
              refine RW.guardF rfl rfl rfl hf ?_
              refine RW.pickC rfl rfl hf rfl ?_
              refine RW.nil (EX.seq ?_)
              -- mq: cond
              refine CW.condF rfl (rfl) ?_
              refine CW.skip (EX.bkN (EX.seq (CW.seq (CW.region ?_))))
              refine RW.buildS bu24 rfl rfl rfl ?_
              refine RW.storeA ag24 rfl rfl (by first | exact Upd.head | exact Upd.tail Upd.head | exact Upd.tail (Upd.tail Upd.head) | exact Upd.tail (Upd.tail (Upd.tail Upd.head)) | exact Upd.tail (Upd.tail (Upd.tail (Upd.tail Upd.head))) | exact Upd.tail (Upd.tail (Upd.tail (Upd.tail (Upd.tail Upd.head)))) | exact Upd.tail (Upd.tail (Upd.tail (Upd.tail (Upd.tail (Upd.tail Upd.head)))))) (by first | rfl | exact Enc.len _ _) (by repeat (first | exact Ones.nil | exact Enc.ones _ _ | refine Ones.cons rfl ?_)) (by first | exact Nat.le_of_ble_eq_true rfl | (simp only [Enc.len]; decide)) ?_
              refine RW.nil (EX.seq (CW.ret ?_))
              refine EX.fin1' Tryd.results22 (RV.cellA ag24 rfl (by first | exact Has.head | exact Has.tail Has.head | exact Has.tail (Has.tail Has.head) | exact Has.tail (Has.tail (Has.tail Has.head)) | exact Has.tail (Has.tail (Has.tail (Has.tail Has.head))) | exact Has.tail (Has.tail (Has.tail (Has.tail (Has.tail Has.head)))) | exact Has.tail (Has.tail (Has.tail (Has.tail (Has.tail (Has.tail Has.head)))))) rfl rfl) (fun wz hw => ?_)
              -- mq: done
              exact ⟨by rw [hsh, if_neg (fun h => by rw [hf] at h; cases h.1)]; rfl, hw.ext⟩
          · skip
            refine CW.seq (CW.region ?_)
            refine RW.eqlS rfl rfl rfl ?_
            refine RW.assign rfl rfl ?_
            refine RW.nil (EX.seq ?_)
            -- mq: cond
            first | refine CW.condD rfl (fun hP => ?_) (fun hP => ?_) | refine CW.cond rfl (fun hP => ?_) (fun hP => ?_)
            · skip
              have hsh : shellF full two three (decide (2 < L.length)) = if full = true ∧ three.take 4 = cwdL then textS 6 (unescF (three.drop 4)) else noneS := by rw [shellF, if_neg hA, if_neg hB, if_neg hC, if_neg hD, if_neg hE, if_pos hP]
              refine CW.seq (CW.region ?_)
              refine RW.move rfl rfl ?_
              refine RW.call rfl ca25 rfl (fun w' _ => cutPrefix_c w' three cwdL (by omega) (by decide)) ?_
              refine RW.move rfl rfl ?_
              refine RW.extract rfl rfl rfl ?_
              refine RW.extract rfl rfl rfl ?_
              refine RW.assign rfl rfl ?_
              refine RW.assign rfl rfl ?_
              refine RW.nil (EX.seq (CW.seq ?_))
              -- mq: region
              refine CW.region ?_
              refine RW.move rfl rfl ?_
              refine RW.move rfl rfl ?_
              -- mq: guard slot 54
              refine RW.casesB 54 rfl (fun hf => ?_) (fun hf => ?_)
              · skip
                refine RW.guardT rfl rfl hf ?_
                refine RW.move rfl rfl ?_
                refine RW.pickB rfl rfl hf rfl ?_
                refine RW.nil (EX.seq ?_)
                -- mq: cond
                first | refine CW.condD rfl (fun hh => ?_) (fun hh => ?_) | refine CW.cond rfl (fun hh => ?_) (fun hh => ?_)
                · skip
                  have hd4 : (three.drop 4).length ≤ three.length := by rw [List.length_drop]; omega
                  have hun4 := unescF_len _ (three.drop 4) (Nat.le_refl _)
                  rw [show (if three.take cwdL.length = cwdL then three.drop cwdL.length else three) = three.drop 4 from if_pos hh]
                  refine CW.seq (CW.region ?_)
                  refine RW.move rfl rfl ?_
                  refine RW.call rfl ca16 rfl (fun w' hw' => Unescape_c w' (hg.ext hw'.ext) (three.drop 4) (by omega)) ?_
                  refine RW.call rfl ca24 rfl (fun w' _ => text_c w' 6 (unescF (three.drop 4)) (by omega)) ?_
                  refine RW.storeA ag24 rfl rfl (by first | exact Upd.head | exact Upd.tail Upd.head | exact Upd.tail (Upd.tail Upd.head) | exact Upd.tail (Upd.tail (Upd.tail Upd.head)) | exact Upd.tail (Upd.tail (Upd.tail (Upd.tail Upd.head))) | exact Upd.tail (Upd.tail (Upd.tail (Upd.tail (Upd.tail Upd.head)))) | exact Upd.tail (Upd.tail (Upd.tail (Upd.tail (Upd.tail (Upd.tail Upd.head)))))) (by first | rfl | exact Enc.len _ _) (by repeat (first | exact Ones.nil | exact Enc.ones _ _ | refine Ones.cons rfl ?_)) (by first | exact Nat.le_of_ble_eq_true rfl | (simp only [Enc.len]; decide)) ?_
                  refine RW.nil (EX.seq (CW.ret (EX.bkR (EX.seqR ?_))))
                  refine EX.fin1' Tryd.results22 (RV.cellA ag24 rfl (by first | exact Has.head | exact Has.tail Has.head | exact Has.tail (Has.tail Has.head) | exact Has.tail (Has.tail (Has.tail Has.head)) | exact Has.tail (Has.tail (Has.tail (Has.tail Has.head))) | exact Has.tail (Has.tail (Has.tail (Has.tail (Has.tail Has.head)))) | exact Has.tail (Has.tail (Has.tail (Has.tail (Has.tail (Has.tail Has.head)))))) rfl rfl) (fun wz hw => ?_)
                  -- mq: done
                  exact ⟨by rw [hsh, if_pos ⟨hf, hh⟩]; rfl, hw.ext⟩
                · skip
                  refine CW.skip (EX.bkN (EX.seq (CW.seq (CW.region ?_))))
                  refine RW.buildS bu24 rfl rfl rfl ?_
                  refine RW.storeA ag24 rfl rfl (by first | exact Upd.head | exact Upd.tail Upd.head | exact Upd.tail (Upd.tail Upd.head) | exact Upd.tail (Upd.tail (Upd.tail Upd.head)) | exact Upd.tail (Upd.tail (Upd.tail (Upd.tail Upd.head))) | exact Upd.tail (Upd.tail (Upd.tail (Upd.tail (Upd.tail Upd.head)))) | exact Upd.tail (Upd.tail (Upd.tail (Upd.tail (Upd.tail (Upd.tail Upd.head)))))) (by first | rfl | exact Enc.len _ _) (by repeat (first | exact Ones.nil | exact Enc.ones _ _ | refine Ones.cons rfl ?_)) (by first | exact Nat.le_of_ble_eq_true rfl | (simp only [Enc.len]; decide)) ?_
                  refine RW.nil (EX.seq (CW.ret ?_))
                  refine EX.fin1' Tryd.results22 (RV.cellA ag24 rfl (by first | exact Has.head | exact Has.tail Has.head | exact Has.tail (Has.tail Has.head) | exact Has.tail (Has.tail (Has.tail Has.head)) | exact Has.tail (Has.tail (Has.tail (Has.tail Has.head))) | exact Has.tail (Has.tail (Has.tail (Has.tail (Has.tail Has.head)))) | exact Has.tail (Has.tail (Has.tail (Has.tail (Has.tail (Has.tail Has.head)))))) rfl rfl) (fun wz hw => ?_)
                  -- mq: done
                  exact ⟨by rw [hsh, if_neg (fun h => hh h.2)]; rfl, hw.ext⟩
              · skip
                refine RW.guardF rfl rfl rfl hf ?_
                refine RW.pickC rfl rfl hf rfl ?_
                refine RW.nil (EX.seq ?_)
                -- mq: cond
                refine CW.condF rfl (rfl) ?_
                refine CW.skip (EX.bkN (EX.seq (CW.seq (CW.region ?_))))
                refine RW.buildS bu24 rfl rfl rfl ?_
                refine RW.storeA ag24 rfl rfl (by first | exact Upd.head | exact Upd.tail Upd.head | exact Upd.tail (Upd.tail Upd.head) | exact Upd.tail (Upd.tail (Upd.tail Upd.head)) | exact Upd.tail (Upd.tail (Upd.tail (Upd.tail Upd.head))) | exact Upd.tail (Upd.tail (Upd.tail (Upd.tail (Upd.tail Upd.head)))) | exact Upd.tail (Upd.tail (Upd.tail (Upd.tail (Upd.tail (Upd.tail Upd.head)))))) (by first | rfl | exact Enc.len _ _) (by repeat (first | exact Ones.nil | exact Enc.ones _ _ | refine Ones.cons rfl ?_)) (by first | exact Nat.le_of_ble_eq_true rfl | (simp only [Enc.len]; decide)) ?_
                refine RW.nil (EX.seq (CW.ret ?_))
                refine EX.fin1' Tryd.results22 (RV.cellA ag24 rfl (by first | exact Has.head | exact Has.tail Has.head | exact Has.tail (Has.tail Has.head) | exact Has.tail (Has.tail (Has.tail Has.head)) | exact Has.tail (Has.tail (Has.tail (Has.tail Has.head))) | exact Has.tail (Has.tail (Has.tail (Has.tail (Has.tail Has.head)))) | exact Has.tail (Has.tail (Has.tail (Has.tail (Has.tail (Has.tail Has.head)))))) rfl rfl) (fun wz hw => ?_)
                -- mq: done
                exact ⟨by rw [hsh, if_neg (fun h => by rw [hf] at h; cases h.1)]; rfl, hw.ext⟩
            · skip
              refine CW.skip (EX.bkN (EX.seq (CW.seq (CW.region ?_))))
              refine RW.buildS bu24 rfl rfl rfl ?_
              refine RW.storeA ag24 rfl rfl (by first | exact Upd.head | exact Upd.tail Upd.head | exact Upd.tail (Upd.tail Upd.head) | exact Upd.tail (Upd.tail (Upd.tail Upd.head)) | exact Upd.tail (Upd.tail (Upd.tail (Upd.tail Upd.head))) | exact Upd.tail (Upd.tail (Upd.tail (Upd.tail (Upd.tail Upd.head)))) | exact Upd.tail (Upd.tail (Upd.tail (Upd.tail (Upd.tail (Upd.tail Upd.head)))))) (by first | rfl | exact Enc.len _ _) (by repeat (first | exact Ones.nil | exact Enc.ones _ _ | refine Ones.cons rfl ?_)) (by first | exact Nat.le_of_ble_eq_true rfl | (simp only [Enc.len]; decide)) ?_
              refine RW.nil (EX.seq (CW.ret ?_))
              refine EX.fin1' Tryd.results22 (RV.cellA ag24 rfl (by first | exact Has.head | exact Has.tail Has.head | exact Has.tail (Has.tail Has.head) | exact Has.tail (Has.tail (Has.tail Has.head)) | exact Has.tail (Has.tail (Has.tail (Has.tail Has.head))) | exact Has.tail (Has.tail (Has.tail (Has.tail (Has.tail Has.head)))) | exact Has.tail (Has.tail (Has.tail (Has.tail (Has.tail (Has.tail Has.head)))))) rfl rfl) (fun wz hw => ?_)
              -- mq: done
              exact ⟨by rw [shellF, if_neg hA, if_neg hB, if_neg hC, if_neg hD, if_neg hE, if_neg hP]; rfl, hw.ext⟩
end Go.Proofs.YtemcblinkicblaaDoor.Mq
