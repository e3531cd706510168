/- dump: the walk of Parse (under way) -/
import Derived.Test.YtnkdabjahmjdoaaDoorR7
namespace Go.Proofs.YtnkdabjahmjdoaaDoor.Mq
open Go Go.RowKit Go.Proofs

def dparV (p : BlkV × Nat) : Value := .tuple #[.agg p.1.cells.toArray, .int .i64 (p.2 : Int)]
theorem Rd.within {w : World} {F : Nat → Prop} {A : Option Addr} {n c : Nat} {L : List (List UInt8)} (h : Rd EStr w F A n c L) : Rd EStr w (fun k => F k ∧ k < w.heap.size) A n c L := by
  refine ⟨h.len, h.cap, h.max, fun hn => ?_⟩
  obtain ⟨ad, h1, h2, h3⟩ := h.cells hn
  refine ⟨ad, h1, ⟨h2, ?_⟩, h3⟩
  have hl := h.len
  have h0 : 0 < L.length := by omega
  have := h3 0 L[0] 0 (.string (bs L[0])) (List.getElem?_eq_getElem h0) rfl
  have := World.block_lt_of_cell? _ _ this
  rwa [block_add, block_add] at this
theorem SH.blkEq {b : World} {S : List Nat} {cs : List Chunk} {w : World} {g t : Nat} {xs ys : List Value} (h : SH b S (blk g xs t :: cs) w) (e : xs = ys) : SH b S (blk g ys t :: cs) w := e ▸ h
theorem SH.csEq {b : World} {S : List Nat} {cs cs' : List Chunk} {w : World} (h : SH b S cs w) (e : cs = cs') : SH b S cs' w := e ▸ h
def blkOf (idn : Nat) (ph code : Int) (has cut : Bool) (ps : List (Int × Int)) : BlkV := ⟨idn, ph, (ps.getD 0 (0, 0)).1, (ps.getD 0 (0, 0)).2, (ps.getD 1 (0, 0)).1, (ps.getD 1 (0, 0)).2, (ps.getD 2 (0, 0)).1, (ps.getD 2 (0, 0)).2, (ps.getD 3 (0, 0)).1, (ps.getD 3 (0, 0)).2, (ps.getD 4 (0, 0)).1, (ps.getD 4 (0, 0)).2, code, has, cut, [], []⟩
theorem PosR.snoc : ∀ {ws : List (List UInt8)} {f : Bool} {ps : List (Int × Int)} {g g1 g2 : Bool} {x y : List UInt8} {r c : Int}, PosR ws f ps g → NumR x g (r, g1) → NumR y g1 (c, g2) → PosR (ws ++ [x, y]) f (ps ++ [(r, c)]) g2
  | [], f, [], g, g1, g2, x, y, r, c, h, h1, h2 => by
    cases (show g = f from h)
    exact ⟨g1, g2, h1, h2, rfl⟩
  | a :: b :: ws, f, p :: ps, g, g1, g2, x, y, r, c, h, h1, h2 => by
    obtain ⟨e1, e2, k1, k2, k3⟩ := h
    exact ⟨e1, e2, k1, k2, PosR.snoc k3 h1 h2⟩
  | [], _, _ :: _, _, _, _, _, _, _, _, h, _, _ => h.elim
  | [_], _, _, _, _, _, _, _, _, _, h, _, _ => by unfold PosR at h; exact h.elim
  | _ :: _ :: _, _, [], _, _, _, _, _, _, _, h, _, _ => h.elim
def WS.advN : Nat → WS → WS
  | 0, s => s
  | n + 1, s => (WS.advN n s).adv
set_option maxHeartbeats 2000000 in
theorem dparse_c (w : World) (hg : Gl w) (hge : Ge w) (hgm : Gm w) (s : List UInt8) (hs : s.length ≤ 1000000) :
    Calls Tryd.prog 17 [.string (bs s)].toArray w (fun e w' => e = .returned (dparV (parseD s)) ∧ Ext [] w w') := by
  have hsm := full_mem 32 s
  have hpos : 0 < (fullP 32 s).length := List.length_pos_iff.2 (fullP_ne 32 s)
  have hfh : (fullP 32 s)[0]? = some ((fullP 32 s).headD []) := by
    cases h : fullP 32 s with
    | nil => exact absurd h (fullP_ne 32 s)
    | cons a r => rfl
  refine calls (n := 85) Tryd.func17 rfl Tryd.ntmps17 rfl ?_
  refine CW.sub (H' := SH w [] []) ?_ (Sub.refl _) (fun x hx => SH.start' _ _ hx)
  refine CW.seq (CW.region ?_)
  refine RW.allocA ag26 rfl (fun g2 hg2 hf2 => ?_)
  refine RW.assign rfl rfl ?_
  refine RW.nil (EX.seq (CW.seq ?_))
  -- mq: region
  refine CW.region ?_
  refine RW.move rfl rfl ?_
  -- mq: at
  refine RW.callK rfl caSplit rfl (fun w' hw' => split_c w' (hgm.ext hw'.ext) s 32 hs) (fun w2 w3 A4 n4 c4 hw2 he23 hw3 hlt3 hrd4 => ?_)
  have hn4 := hrd4.len
  have hcap4 := hrd4.cap
  have hx13 : Ext [] w w3 := hw2.ext.trans0 he23
  have hcv := hw2.cov
  obtain ⟨ad, hA4, hAd, hcl⟩ := hrd4.at_ hfh
  refine RW.buildS bu68 rfl rfl rfl ?_
  refine RW.boxA rfl rfl (fun g11 hg11 hf11 => ?_)
  refine RW.assign rfl rfl ?_
  refine RW.nil (EX.seq (CW.seq (CW.seq ?_)))
  -- mq: region
  refine CW.region ?_
  refine RW.move rfl rfl ?_
  refine RW.nilChk rfl rfl ?_
  refine RW.fieldB fl68x0 rfl rfl ?_
  refine RW.loadB1 sc66 rfl rfl (by first | exact Has.head | exact Has.tail Has.head | exact Has.tail (Has.tail Has.head) | exact Has.tail (Has.tail (Has.tail Has.head)) | exact Has.tail (Has.tail (Has.tail (Has.tail Has.head))) | exact Has.tail (Has.tail (Has.tail (Has.tail (Has.tail Has.head)))) | exact Has.tail (Has.tail (Has.tail (Has.tail (Has.tail (Has.tail Has.head)))))) rfl ?_
  refine RW.ixAddr (q := 0) sl66 rfl rfl rfl (by first | rfl | assumption) (by omega) (by omega) ?_
  refine RW.load1 sc9 rfl rfl (fun w' hw' => hw'.base_cell (hcl 0 _ rfl) (fun hk2 => by have := hlt3 _ hk2; have : w2.heap.size ≤ ad.block := hAd; simp only [block_add] at *; omega)) ?_
  refine RW.neqS rfl rfl rfl ?_
  refine RW.nil (EX.seq ?_)
  -- mq: cond
  first | refine CW.condD rfl (fun hb => ?_) (fun hb => ?_) | refine CW.cond rfl (fun hb => ?_) (fun hb => ?_)
  · skip
    refine CW.seq (CW.region ?_)
    refine RW.buildS bu26 rfl rfl rfl ?_
    refine RW.storeA ag26 rfl rfl (by first | exact Upd.head | exact Upd.tail Upd.head | exact Upd.tail (Upd.tail Upd.head) | exact Upd.tail (Upd.tail (Upd.tail Upd.head)) | exact Upd.tail (Upd.tail (Upd.tail (Upd.tail Upd.head))) | exact Upd.tail (Upd.tail (Upd.tail (Upd.tail (Upd.tail Upd.head)))) | exact Upd.tail (Upd.tail (Upd.tail (Upd.tail (Upd.tail (Upd.tail Upd.head)))))) (by first | rfl | exact Enc.len _ _) (by repeat (first | exact Ones.nil | exact Enc.ones _ _ | refine Ones.cons rfl ?_)) (by first | exact Nat.le_of_ble_eq_true rfl | (simp only [Enc.len]; decide)) ?_
    refine RW.assign rfl rfl ?_
    refine RW.nil (EX.seq (CW.ret (EX.seqR ?_)))
    refine EX.fin2' Tryd.results17 (RV.cellA ag26 rfl (by first | exact Has.head | exact Has.tail Has.head | exact Has.tail (Has.tail Has.head) | exact Has.tail (Has.tail (Has.tail Has.head)) | exact Has.tail (Has.tail (Has.tail (Has.tail Has.head))) | exact Has.tail (Has.tail (Has.tail (Has.tail (Has.tail Has.head)))) | exact Has.tail (Has.tail (Has.tail (Has.tail (Has.tail (Has.tail Has.head)))))) rfl rfl) (RV.tmp rfl) (fun wz hw => ?_)
    -- mq: done
    exact ⟨by rw [parseD_no hb]; rfl, ((hw.rem Rem.head).unbase hx13 hcv).ext⟩
  · skip
    have hb' : (fullP 32 s).headD [] = blockW := Decidable.not_not.1 hb
    refine CW.skip (EX.seq (CW.seq (CW.seq (CW.region ?_))))
    refine RW.move rfl rfl ?_
    refine RW.nilChk rfl rfl ?_
    refine RW.fieldB fl68x0 rfl rfl ?_
    refine RW.loadB1 sc66 rfl rfl (by first | exact Has.head | exact Has.tail Has.head | exact Has.tail (Has.tail Has.head) | exact Has.tail (Has.tail (Has.tail Has.head)) | exact Has.tail (Has.tail (Has.tail (Has.tail Has.head))) | exact Has.tail (Has.tail (Has.tail (Has.tail (Has.tail Has.head)))) | exact Has.tail (Has.tail (Has.tail (Has.tail (Has.tail (Has.tail Has.head)))))) rfl ?_
    refine RW.lenSl Tryd.underlying66 rfl rfl ?_
    refine RW.neqI rfl rfl rfl ?_
    refine RW.nil (EX.seq ?_)
    -- mq: cond
    first | refine CW.condD rfl (fun hl => ?_) (fun hl => ?_) | refine CW.cond rfl (fun hl => ?_) (fun hl => ?_)
    · skip
      refine CW.seq (CW.region ?_)
      refine RW.buildS bu26 rfl rfl rfl ?_
      refine RW.storeA ag26 rfl rfl (by first | exact Upd.head | exact Upd.tail Upd.head | exact Upd.tail (Upd.tail Upd.head) | exact Upd.tail (Upd.tail (Upd.tail Upd.head)) | exact Upd.tail (Upd.tail (Upd.tail (Upd.tail Upd.head))) | exact Upd.tail (Upd.tail (Upd.tail (Upd.tail (Upd.tail Upd.head)))) | exact Upd.tail (Upd.tail (Upd.tail (Upd.tail (Upd.tail (Upd.tail Upd.head)))))) (by first | rfl | exact Enc.len _ _) (by repeat (first | exact Ones.nil | exact Enc.ones _ _ | refine Ones.cons rfl ?_)) (by first | exact Nat.le_of_ble_eq_true rfl | (simp only [Enc.len]; decide)) ?_
      refine RW.assign rfl rfl ?_
      refine RW.nil (EX.seq (CW.ret (EX.seqR ?_)))
      refine EX.fin2' Tryd.results17 (RV.cellA ag26 rfl (by first | exact Has.head | exact Has.tail Has.head | exact Has.tail (Has.tail Has.head) | exact Has.tail (Has.tail (Has.tail Has.head)) | exact Has.tail (Has.tail (Has.tail (Has.tail Has.head))) | exact Has.tail (Has.tail (Has.tail (Has.tail (Has.tail Has.head)))) | exact Has.tail (Has.tail (Has.tail (Has.tail (Has.tail (Has.tail Has.head)))))) rfl rfl) (RV.tmp rfl) (fun wz hw => ?_)
      -- mq: done
      exact ⟨by rw [parseD_len hb' (by omega)]; rfl, ((hw.rem Rem.head).unbase hx13 hcv).ext⟩
    · skip
      obtain ⟨x0, x1, x2, x3, x4, y1, y2, y3, y4, y5, y6, y7, y8, y9, y10, x15, x16, h17⟩ := len17 (L := fullP 32 s) (by omega)
      rw [h17] at hb' hsm hrd4
      have hx0 : x0 = blockW := hb'
      subst hx0
      have hle : ∀ x ∈ [blockW, x1, x2, x3, x4, y1, y2, y3, y4, y5, y6, y7, y8, y9, y10, x15, x16], x.length ≤ 1000000 := fun x hx => by have := (hsm x hx).2; omega
      have hr0 : RdW w3 (fun k => w2.heap.size ≤ k ∧ k < w3.heap.size) ⟨A4, n4, c4⟩ _ := hrd4.within
      have hr1 := hr0.adv
      have hr2 := hr1.adv
      have hr3 := hr2.adv
      have hr4 := hr3.adv
      have hE : ∀ w', Ext (feet [blk g2 zeroB.cells 26]) w3 w' → Ext [] w w' := fun w' h => hx13.trans h hcv
      have hG : ∀ w', Ext (feet [blk g2 zeroB.cells 26]) w3 w' → GR w' g11 := fun w' h => ⟨w, hE w' h, by have := hx13.size; omega, hg, hge⟩
      have hF : ¬ (w2.heap.size ≤ g11 ∧ g11 < w3.heap.size) := by omega
      have hR : ∀ {t : WS} {L : List (List UInt8)}, RdW w3 (fun k => w2.heap.size ≤ k ∧ k < w3.heap.size) t L → ∀ w', Ext (feet [blk g2 zeroB.cells 26]) w3 w' → RdW w' (fun k => w2.heap.size ≤ k ∧ k < w3.heap.size) t L := fun hr w' h => Rd.ext hr h (fun k hk hk2 => by have := hlt3 k hk2; omega)
      refine CW.skip (EX.seq (CW.seq ?_))
      -- mq: region
      refine CW.region ?_
      refine RW.move rfl rfl ?_
      refine RW.nilChk rfl rfl ?_
      refine RW.fieldB fl68x0 rfl rfl ?_
      refine RW.callUI (fun _ => [rdr g11 (WS.adv ⟨A4, n4, c4⟩) false, blk g2 zeroB.cells 26]) rfl ca34 rfl (fun _ => Upd.head) (fun w' hw' => next_c w' g11 ⟨A4, n4, c4⟩ false _ _ _ (hR hr0 w' hw'.ext) hF (hw'.has Has.head)) (fun _ _ => ?_)
      refine RW.nil (EX.seq (CW.seq ?_))
      -- mq: region
      refine CW.region ?_
      refine RW.move rfl rfl ?_
      refine RW.callUI (fun i : Int × Bool => [rdr g11 (WS.adv (WS.adv ⟨A4, n4, c4⟩)) i.2, blk g2 zeroB.cells 26]) rfl ca35 rfl (fun _ => Upd.head) (fun w' hw' => idR_c w' g11 (hG w' hw'.ext) _ false _ x1 _ (hR hr1 w' hw'.ext) hF (hle x1 (by simp)) (hw'.has Has.head)) (fun i1 hi1 => ?_)
      refine RW.move rfl rfl ?_
      refine RW.callUI (fun i : Int × Bool => [rdr g11 (WS.adv (WS.adv (WS.adv ⟨A4, n4, c4⟩))) i.2, blk g2 zeroB.cells 26]) rfl ca36 rfl (fun _ => Upd.head) (fun w' hw' => phaseR_c w' g11 _ i1.2 _ x2 _ (hR hr2 w' hw'.ext) hF (hw'.has Has.head)) (fun i2 hi2 => ?_)
      refine RW.move rfl rfl ?_
      refine RW.callUI (fun _ => [rdr g11 (WS.adv (WS.adv (WS.adv (WS.adv ⟨A4, n4, c4⟩)))) (i2.2 || (decide (x3 ≠ cutW true) && decide (x3 ≠ cutW false))), blk g2 zeroB.cells 26]) rfl ca37 rfl (fun _ => Upd.head) (fun w' hw' => eitherR_c w' g11 _ i2.2 _ x3 (cutW true) (cutW false) _ (hR hr3 w' hw'.ext) hF (hw'.has Has.head)) (fun _ _ => ?_)
      refine RW.buildS bu26 rfl rfl rfl ?_
      refine RW.allocA ag26 rfl (fun g5 hg5 hf5 => ?_)
      refine RW.storeA ag26 rfl rfl (by first | exact Upd.head | exact Upd.tail Upd.head | exact Upd.tail (Upd.tail Upd.head) | exact Upd.tail (Upd.tail (Upd.tail Upd.head)) | exact Upd.tail (Upd.tail (Upd.tail (Upd.tail Upd.head))) | exact Upd.tail (Upd.tail (Upd.tail (Upd.tail (Upd.tail Upd.head)))) | exact Upd.tail (Upd.tail (Upd.tail (Upd.tail (Upd.tail (Upd.tail Upd.head)))))) (by first | rfl | exact Enc.len _ _) (by repeat (first | exact Ones.nil | exact Enc.ones _ _ | refine Ones.cons rfl ?_)) (by first | exact Nat.le_of_ble_eq_true rfl | (simp only [Enc.len]; decide)) ?_
      refine RW.nil (EX.seq (CW.seq (CW.seq ?_)))
      -- mq: region
      obtain ⟨idn, hidn⟩ : ∃ m : Nat, i1.1 = m := ⟨i1.1.toNat, by have := hi1.2.2; omega⟩
      obtain ⟨id0, f1⟩ := i1
      dsimp only at hidn
      subst hidn
      obtain ⟨ph, f2⟩ := i2
      dsimp only at hi1 hi2 ⊢
      refine CW.sub (H' := SH w3 (feet [blk g2 zeroB.cells 26]) [blk g5 (BlkV.cells ⟨idn, ph, 0, 0, 0, 0, 0, 0, 0, 0, 0, 0, 0, false, decide (x3 = cutW true), [], []⟩) 26, rdr g11 (WS.adv (WS.adv (WS.adv (WS.adv ⟨A4, n4, c4⟩)))) (f2 || (decide (x3 ≠ cutW true) && decide (x3 ≠ cutW false))), blk g2 zeroB.cells 26]) ?_ (Sub.refl _) (fun x hx => hx.blkEq (by kernel_rfl))
      have hl4 := hr4.len
      have hm4 : 1 ≤ (WS.adv (WS.adv (WS.adv (WS.adv ⟨A4, n4, c4⟩)))).m := by rw [← hl4]; simp
      obtain ⟨ad4, hA44, hAd4, hcl4⟩ := hr4.at_ (k := 0) (a := x4) rfl
      refine CW.region ?_
      refine RW.move rfl rfl ?_
      refine RW.nilChk rfl rfl ?_
      refine RW.fieldB fl68x0 rfl rfl ?_
      refine RW.loadB1 sc66 rfl rfl (by first | exact Has.head | exact Has.tail Has.head | exact Has.tail (Has.tail Has.head) | exact Has.tail (Has.tail (Has.tail Has.head)) | exact Has.tail (Has.tail (Has.tail (Has.tail Has.head))) | exact Has.tail (Has.tail (Has.tail (Has.tail (Has.tail Has.head)))) | exact Has.tail (Has.tail (Has.tail (Has.tail (Has.tail (Has.tail Has.head)))))) rfl ?_
      refine RW.ixAddr (q := 0) sl66 rfl rfl rfl (by first | rfl | assumption) (by omega) (by omega) ?_
      refine RW.load1 sc9 rfl rfl (fun w' hw' => hw'.base_cell (hcl4 0 _ rfl) (fun hk2 => by have := hlt3 _ hk2; have : w2.heap.size ≤ ad4.block := hAd4.1; simp only [block_add] at *; omega)) ?_
      refine RW.eqlS rfl rfl rfl ?_
      refine RW.nil (EX.seq ?_)
      -- mq: cond
      refine CW.joinI (fun _ : Int × Bool × Bool => [(2, .pointer (some ⟨g2, 0, none⟩)), (4, .pointer (some ⟨g11, 0, none⟩)), (5, .pointer (some ⟨g5, 0, none⟩))]) (fun i => SH w3 (feet [blk g2 zeroB.cells 26]) [blk g5 (BlkV.cells ⟨idn, ph, 0, 0, 0, 0, 0, 0, 0, 0, 0, 0, i.1, i.2.1, decide (x3 = cutW true), [], []⟩) 26, rdr g11 (WS.adv (WS.adv (WS.adv (WS.adv (WS.adv ⟨A4, n4, c4⟩))))) i.2.2, blk g2 zeroB.cells 26]) (fun i => CodeR x4 (f2 || (decide (x3 ≠ cutW true) && decide (x3 ≠ cutW false))) i.1 i.2.1 i.2.2) ?_ ?_
      · skip
        first | refine CW.condD rfl (fun h44 => ?_) (fun h44 => ?_) | refine CW.cond rfl (fun h44 => ?_) (fun h44 => ?_)
        · skip
          refine CW.region ?_
          refine RW.move rfl rfl ?_
          refine RW.nilChk rfl rfl ?_
          refine RW.fieldB fl68x0 rfl rfl ?_
          refine RW.callUI (fun _ => [blk g5 (BlkV.cells ⟨idn, ph, 0, 0, 0, 0, 0, 0, 0, 0, 0, 0, 0, false, decide (x3 = cutW true), [], []⟩) 26, rdr g11 (WS.adv (WS.adv (WS.adv (WS.adv (WS.adv ⟨A4, n4, c4⟩))))) (f2 || (decide (x3 ≠ cutW true) && decide (x3 ≠ cutW false))), blk g2 zeroB.cells 26]) rfl ca34 rfl (fun _ => Upd.tail Upd.head) (fun w' hw' => next_c w' g11 _ _ _ x4 _ (hR hr4 w' hw'.ext) hF (hw'.has (Has.tail Has.head))) (fun _ _ => ?_)
          refine RW.nil ?_
          -- mq: joinend
          exact EX.jnI (0, false, (f2 || (decide (x3 ≠ cutW true) && decide (x3 ≠ cutW false)))) (.inl ⟨h44, rfl, rfl, rfl⟩) (by repeat (first | exact Sub.nil | refine Sub.cons (by rfl) ?_)) (fun _ h => h)
        · skip
          refine CW.region ?_
          refine RW.move rfl rfl ?_
          refine RW.callUI (fun i : Int × Bool => [blk g5 (BlkV.cells ⟨idn, ph, 0, 0, 0, 0, 0, 0, 0, 0, 0, 0, 0, false, decide (x3 = cutW true), [], []⟩) 26, rdr g11 (WS.adv (WS.adv (WS.adv (WS.adv (WS.adv ⟨A4, n4, c4⟩))))) i.2, blk g2 zeroB.cells 26]) rfl ca38 rfl (fun _ => Upd.tail Upd.head) (fun w' hw' => numberR_c w' g11 (hG w' hw'.ext) _ _ _ x4 _ (hR hr4 w' hw'.ext) hF (hle x4 (by simp)) (hw'.has (Has.tail Has.head))) (fun i4 hi4 => ?_)
          refine RW.fieldB fl26x8 rfl rfl ?_
          refine RW.store1 sc4 rfl rfl (by first | exact Upd.head | exact Upd.tail Upd.head | exact Upd.tail (Upd.tail Upd.head) | exact Upd.tail (Upd.tail (Upd.tail Upd.head)) | exact Upd.tail (Upd.tail (Upd.tail (Upd.tail Upd.head))) | exact Upd.tail (Upd.tail (Upd.tail (Upd.tail (Upd.tail Upd.head)))) | exact Upd.tail (Upd.tail (Upd.tail (Upd.tail (Upd.tail (Upd.tail Upd.head)))))) rfl (by first | exact Nat.le_of_ble_eq_true rfl | simp) ?_
          refine RW.fieldB fl26x7 rfl rfl ?_
          refine RW.store1 sc3 rfl rfl (by first | exact Upd.head | exact Upd.tail Upd.head | exact Upd.tail (Upd.tail Upd.head) | exact Upd.tail (Upd.tail (Upd.tail Upd.head)) | exact Upd.tail (Upd.tail (Upd.tail (Upd.tail Upd.head))) | exact Upd.tail (Upd.tail (Upd.tail (Upd.tail (Upd.tail Upd.head)))) | exact Upd.tail (Upd.tail (Upd.tail (Upd.tail (Upd.tail (Upd.tail Upd.head)))))) rfl (by first | exact Nat.le_of_ble_eq_true rfl | simp) ?_
          refine RW.nil ?_
          -- mq: joinend
          exact EX.jnI (i4.1, true, i4.2) (.inr ⟨h44, rfl, hi4⟩) (by repeat (first | exact Sub.nil | refine Sub.cons (by rfl) ?_)) (fun _ h => h)
      · skip
        rintro ⟨code, has, f4⟩ hcode
        dsimp only at hcode ⊢
        have hr5 := hr4.adv
        have hr6 := hr5.adv
        have hr7 := hr6.adv
        have hr8 := hr7.adv
        have hr9 := hr8.adv
        have hr10 := hr9.adv
        have hr11 := hr10.adv
        have hr12 := hr11.adv
        have hr13 := hr12.adv
        have hr14 := hr13.adv
        have hr15 := hr14.adv
        have hr16 := hr15.adv
        refine EX.seq (CW.seq (CW.seq (CW.region ?_)))
        refine RW.call rfl ca28 rfl (fun w' _ => places_c w' g5) ?_
        refine RW.move rfl rfl ?_
        refine RW.nil (EX.seq (CW.block ?_))
        -- mq: loop
        refine CW.loop (ι := Nat × List (Int × Int) × Bool) (fun t => [(2, .pointer (some ⟨g2, 0, none⟩)), (4, .pointer (some ⟨g11, 0, none⟩)), (5, .pointer (some ⟨g5, 0, none⟩)), (53, .agg (ptrs g5).toArray), (54, .int .i64 (t.1 : Int))]) (fun t => SH w3 (feet [blk g2 zeroB.cells 26]) [blk g5 (blkOf idn ph code has (decide (x3 = cutW true)) t.2.1).cells 26, rdr g11 (WS.advN (5 + 2 * t.1) ⟨A4, n4, c4⟩) t.2.2, blk g2 zeroB.cells 26]) (fun t => t.1 ≤ 5 ∧ t.2.1.length = t.1 ∧ PosR ([y1, y2, y3, y4, y5, y6, y7, y8, y9, y10].take (2 * t.1)) f4 t.2.1 t.2.2) (fun t => 5 - t.1) ?_ ?_
        · exact fun w' hw' => ⟨(0, [], f4), ⟨Nat.zero_le _, rfl, rfl⟩, (by repeat (first | exact Sub.nil | refine Sub.cons (by rfl) ?_)), hw'⟩
        · rintro ⟨k, ps, f⟩ ⟨hk, hps, hpr⟩
          dsimp only at hk hps hpr ⊢
          refine CW.seq (CW.region ?_)
          refine RW.lss rfl rfl rfl ?_
          refine RW.nil (EX.seq (CW.seq ?_))
          -- mq: cond
          first | refine CW.condD rfl (fun hlt => ?_) (fun hlt => ?_) | refine CW.cond rfl (fun hlt => ?_) (fun hlt => ?_)
          · skip
            rcases (show k = 0 ∨ k = 1 ∨ k = 2 ∨ k = 3 ∨ k = 4 by omega) with rfl | rfl | rfl | rfl | rfl
            · skip
              obtain rfl : ps = [] := List.length_eq_zero_iff.1 hps
              refine CW.skip (EX.seq (CW.seq (CW.block (CW.seq (CW.region ?_)))))
              refine RW.ixValS (q := 0) Tryd.underlying56 sc55 rfl rfl rfl (by omega) (by omega) rfl ?_
              refine RW.assign rfl rfl ?_
              refine RW.nil (EX.seq (CW.seq ?_))
              -- mq: region
              refine CW.region ?_
              refine RW.move rfl rfl ?_
              refine RW.move rfl rfl ?_
              refine RW.callUI (fun i : Int × Bool => [blk g5 (blkOf idn ph code has (decide (x3 = cutW true)) []).cells 26, rdr g11 (WS.advN 6 ⟨A4, n4, c4⟩) i.2, blk g2 zeroB.cells 26]) rfl ca38 rfl (fun _ => Upd.tail Upd.head) (fun w' hw' => numberR_c w' g11 (hG w' hw'.ext) _ _ _ y1 _ (hR hr5 w' hw'.ext) hF (hle y1 (by simp)) (hw'.has (Has.tail Has.head))) (fun ia hia => ?_)
              refine RW.nilChk rfl rfl ?_
              refine RW.fieldB fl24x0 rfl rfl ?_
              refine RW.store1 sc3 rfl rfl (by first | exact Upd.head | exact Upd.tail Upd.head | exact Upd.tail (Upd.tail Upd.head) | exact Upd.tail (Upd.tail (Upd.tail Upd.head)) | exact Upd.tail (Upd.tail (Upd.tail (Upd.tail Upd.head))) | exact Upd.tail (Upd.tail (Upd.tail (Upd.tail (Upd.tail Upd.head)))) | exact Upd.tail (Upd.tail (Upd.tail (Upd.tail (Upd.tail (Upd.tail Upd.head)))))) rfl (by first | exact Nat.le_of_ble_eq_true rfl | simp) ?_
              refine RW.nil (EX.seq ?_)
              -- mq: region
              refine CW.sub (H' := SH w3 (feet [blk g2 zeroB.cells 26]) [blk g5 (blkOf idn ph code has (decide (x3 = cutW true)) [(ia.1, 0)]).cells 26, rdr g11 (WS.advN 6 ⟨A4, n4, c4⟩) ia.2, blk g2 zeroB.cells 26]) ?_ (Sub.refl _) (fun x hx => hx.blkEq (by kernel_rfl))
              refine CW.region ?_
              refine RW.move rfl rfl ?_
              refine RW.move rfl rfl ?_
              refine RW.callUI (fun i : Int × Bool => [blk g5 (blkOf idn ph code has (decide (x3 = cutW true)) [(ia.1, 0)]).cells 26, rdr g11 (WS.advN 7 ⟨A4, n4, c4⟩) i.2, blk g2 zeroB.cells 26]) rfl ca38 rfl (fun _ => Upd.tail Upd.head) (fun w' hw' => numberR_c w' g11 (hG w' hw'.ext) _ _ _ y2 _ (hR hr6 w' hw'.ext) hF (hle y2 (by simp)) (hw'.has (Has.tail Has.head))) (fun ib hib => ?_)
              refine RW.nilChk rfl rfl ?_
              refine RW.fieldB fl24x1 rfl rfl ?_
              refine RW.store1 sc3 rfl rfl (by first | exact Upd.head | exact Upd.tail Upd.head | exact Upd.tail (Upd.tail Upd.head) | exact Upd.tail (Upd.tail (Upd.tail Upd.head)) | exact Upd.tail (Upd.tail (Upd.tail (Upd.tail Upd.head))) | exact Upd.tail (Upd.tail (Upd.tail (Upd.tail (Upd.tail Upd.head)))) | exact Upd.tail (Upd.tail (Upd.tail (Upd.tail (Upd.tail (Upd.tail Upd.head)))))) rfl (by first | exact Nat.le_of_ble_eq_true rfl | simp) ?_
              refine RW.nil (EX.bkN (EX.seq (CW.region ?_)))
              refine RW.add rfl rfl rfl (wrap64 (by omega) (by omega)) ?_
              refine RW.move rfl rfl ?_
              refine RW.nil ?_
              -- mq: loopend
              exact EX.lpN (1, [(ia.1, ib.1)], ib.2) ⟨by dsimp only; omega, rfl, PosR.snoc hpr hia hib⟩ (by dsimp only; omega) (by repeat (first | exact Sub.nil | refine Sub.cons (by rfl) ?_)) (fun w' hw' => hw'.blkEq (by kernel_rfl))
            · skip
              obtain ⟨p0, rfl⟩ : ∃ p0, ps = [p0] := by match ps, hps with | [p0], _ => exact ⟨p0, rfl⟩
              refine CW.skip (EX.seq (CW.seq (CW.block (CW.seq (CW.region ?_)))))
              refine RW.ixValS (q := 1) Tryd.underlying56 sc55 rfl rfl rfl (by omega) (by omega) rfl ?_
              refine RW.assign rfl rfl ?_
              refine RW.nil (EX.seq (CW.seq ?_))
              -- mq: region
              refine CW.region ?_
              refine RW.move rfl rfl ?_
              refine RW.move rfl rfl ?_
              refine RW.callUI (fun i : Int × Bool => [blk g5 (blkOf idn ph code has (decide (x3 = cutW true)) [p0]).cells 26, rdr g11 (WS.advN 8 ⟨A4, n4, c4⟩) i.2, blk g2 zeroB.cells 26]) rfl ca38 rfl (fun _ => Upd.tail Upd.head) (fun w' hw' => numberR_c w' g11 (hG w' hw'.ext) _ _ _ y3 _ (hR hr7 w' hw'.ext) hF (hle y3 (by simp)) (hw'.has (Has.tail Has.head))) (fun ia hia => ?_)
              refine RW.nilChk rfl rfl ?_
              refine RW.fieldB fl24x0 rfl rfl ?_
              refine RW.store1 sc3 rfl rfl (by first | exact Upd.head | exact Upd.tail Upd.head | exact Upd.tail (Upd.tail Upd.head) | exact Upd.tail (Upd.tail (Upd.tail Upd.head)) | exact Upd.tail (Upd.tail (Upd.tail (Upd.tail Upd.head))) | exact Upd.tail (Upd.tail (Upd.tail (Upd.tail (Upd.tail Upd.head)))) | exact Upd.tail (Upd.tail (Upd.tail (Upd.tail (Upd.tail (Upd.tail Upd.head)))))) rfl (by first | exact Nat.le_of_ble_eq_true rfl | simp) ?_
              refine RW.nil (EX.seq ?_)
              -- mq: region
              refine CW.sub (H' := SH w3 (feet [blk g2 zeroB.cells 26]) [blk g5 (blkOf idn ph code has (decide (x3 = cutW true)) [p0, (ia.1, 0)]).cells 26, rdr g11 (WS.advN 8 ⟨A4, n4, c4⟩) ia.2, blk g2 zeroB.cells 26]) ?_ (Sub.refl _) (fun x hx => hx.blkEq (by kernel_rfl))
              refine CW.region ?_
              refine RW.move rfl rfl ?_
              refine RW.move rfl rfl ?_
              refine RW.callUI (fun i : Int × Bool => [blk g5 (blkOf idn ph code has (decide (x3 = cutW true)) [p0, (ia.1, 0)]).cells 26, rdr g11 (WS.advN 9 ⟨A4, n4, c4⟩) i.2, blk g2 zeroB.cells 26]) rfl ca38 rfl (fun _ => Upd.tail Upd.head) (fun w' hw' => numberR_c w' g11 (hG w' hw'.ext) _ _ _ y4 _ (hR hr8 w' hw'.ext) hF (hle y4 (by simp)) (hw'.has (Has.tail Has.head))) (fun ib hib => ?_)
              refine RW.nilChk rfl rfl ?_
              refine RW.fieldB fl24x1 rfl rfl ?_
              refine RW.store1 sc3 rfl rfl (by first | exact Upd.head | exact Upd.tail Upd.head | exact Upd.tail (Upd.tail Upd.head) | exact Upd.tail (Upd.tail (Upd.tail Upd.head)) | exact Upd.tail (Upd.tail (Upd.tail (Upd.tail Upd.head))) | exact Upd.tail (Upd.tail (Upd.tail (Upd.tail (Upd.tail Upd.head)))) | exact Upd.tail (Upd.tail (Upd.tail (Upd.tail (Upd.tail (Upd.tail Upd.head)))))) rfl (by first | exact Nat.le_of_ble_eq_true rfl | simp) ?_
              refine RW.nil (EX.bkN (EX.seq (CW.region ?_)))
              refine RW.add rfl rfl rfl (wrap64 (by omega) (by omega)) ?_
              refine RW.move rfl rfl ?_
              refine RW.nil ?_
              -- mq: loopend
              exact EX.lpN (2, [p0, (ia.1, ib.1)], ib.2) ⟨by dsimp only; omega, rfl, PosR.snoc hpr hia hib⟩ (by dsimp only; omega) (by repeat (first | exact Sub.nil | refine Sub.cons (by rfl) ?_)) (fun w' hw' => hw'.blkEq (by kernel_rfl))
            · skip
              obtain ⟨p0, p1, rfl⟩ : ∃ p0 p1, ps = [p0, p1] := by match ps, hps with | [p0, p1], _ => exact ⟨p0, p1, rfl⟩
              refine CW.skip (EX.seq (CW.seq (CW.block (CW.seq (CW.region ?_)))))
              refine RW.ixValS (q := 2) Tryd.underlying56 sc55 rfl rfl rfl (by omega) (by omega) rfl ?_
              refine RW.assign rfl rfl ?_
              refine RW.nil (EX.seq (CW.seq ?_))
              -- mq: region
              refine CW.region ?_
              refine RW.move rfl rfl ?_
              refine RW.move rfl rfl ?_
              refine RW.callUI (fun i : Int × Bool => [blk g5 (blkOf idn ph code has (decide (x3 = cutW true)) [p0, p1]).cells 26, rdr g11 (WS.advN 10 ⟨A4, n4, c4⟩) i.2, blk g2 zeroB.cells 26]) rfl ca38 rfl (fun _ => Upd.tail Upd.head) (fun w' hw' => numberR_c w' g11 (hG w' hw'.ext) _ _ _ y5 _ (hR hr9 w' hw'.ext) hF (hle y5 (by simp)) (hw'.has (Has.tail Has.head))) (fun ia hia => ?_)
              refine RW.nilChk rfl rfl ?_
              refine RW.fieldB fl24x0 rfl rfl ?_
              refine RW.store1 sc3 rfl rfl (by first | exact Upd.head | exact Upd.tail Upd.head | exact Upd.tail (Upd.tail Upd.head) | exact Upd.tail (Upd.tail (Upd.tail Upd.head)) | exact Upd.tail (Upd.tail (Upd.tail (Upd.tail Upd.head))) | exact Upd.tail (Upd.tail (Upd.tail (Upd.tail (Upd.tail Upd.head)))) | exact Upd.tail (Upd.tail (Upd.tail (Upd.tail (Upd.tail (Upd.tail Upd.head)))))) rfl (by first | exact Nat.le_of_ble_eq_true rfl | simp) ?_
              refine RW.nil (EX.seq ?_)
              -- mq: region
              refine CW.sub (H' := SH w3 (feet [blk g2 zeroB.cells 26]) [blk g5 (blkOf idn ph code has (decide (x3 = cutW true)) [p0, p1, (ia.1, 0)]).cells 26, rdr g11 (WS.advN 10 ⟨A4, n4, c4⟩) ia.2, blk g2 zeroB.cells 26]) ?_ (Sub.refl _) (fun x hx => hx.blkEq (by kernel_rfl))
              refine CW.region ?_
              refine RW.move rfl rfl ?_
              refine RW.move rfl rfl ?_
              refine RW.callUI (fun i : Int × Bool => [blk g5 (blkOf idn ph code has (decide (x3 = cutW true)) [p0, p1, (ia.1, 0)]).cells 26, rdr g11 (WS.advN 11 ⟨A4, n4, c4⟩) i.2, blk g2 zeroB.cells 26]) rfl ca38 rfl (fun _ => Upd.tail Upd.head) (fun w' hw' => numberR_c w' g11 (hG w' hw'.ext) _ _ _ y6 _ (hR hr10 w' hw'.ext) hF (hle y6 (by simp)) (hw'.has (Has.tail Has.head))) (fun ib hib => ?_)
              refine RW.nilChk rfl rfl ?_
              refine RW.fieldB fl24x1 rfl rfl ?_
              refine RW.store1 sc3 rfl rfl (by first | exact Upd.head | exact Upd.tail Upd.head | exact Upd.tail (Upd.tail Upd.head) | exact Upd.tail (Upd.tail (Upd.tail Upd.head)) | exact Upd.tail (Upd.tail (Upd.tail (Upd.tail Upd.head))) | exact Upd.tail (Upd.tail (Upd.tail (Upd.tail (Upd.tail Upd.head)))) | exact Upd.tail (Upd.tail (Upd.tail (Upd.tail (Upd.tail (Upd.tail Upd.head)))))) rfl (by first | exact Nat.le_of_ble_eq_true rfl | simp) ?_
              refine RW.nil (EX.bkN (EX.seq (CW.region ?_)))
              refine RW.add rfl rfl rfl (wrap64 (by omega) (by omega)) ?_
              refine RW.move rfl rfl ?_
              refine RW.nil ?_
              -- mq: loopend
              exact EX.lpN (3, [p0, p1, (ia.1, ib.1)], ib.2) ⟨by dsimp only; omega, rfl, PosR.snoc hpr hia hib⟩ (by dsimp only; omega) (by repeat (first | exact Sub.nil | refine Sub.cons (by rfl) ?_)) (fun w' hw' => hw'.blkEq (by kernel_rfl))
            · skip
              obtain ⟨p0, p1, p2, rfl⟩ : ∃ p0 p1 p2, ps = [p0, p1, p2] := by match ps, hps with | [p0, p1, p2], _ => exact ⟨p0, p1, p2, rfl⟩
              refine CW.skip (EX.seq (CW.seq (CW.block (CW.seq (CW.region ?_)))))
              refine RW.ixValS (q := 3) Tryd.underlying56 sc55 rfl rfl rfl (by omega) (by omega) rfl ?_
              refine RW.assign rfl rfl ?_
              refine RW.nil (EX.seq (CW.seq ?_))
              -- mq: region
              refine CW.region ?_
              refine RW.move rfl rfl ?_
              refine RW.move rfl rfl ?_
              refine RW.callUI (fun i : Int × Bool => [blk g5 (blkOf idn ph code has (decide (x3 = cutW true)) [p0, p1, p2]).cells 26, rdr g11 (WS.advN 12 ⟨A4, n4, c4⟩) i.2, blk g2 zeroB.cells 26]) rfl ca38 rfl (fun _ => Upd.tail Upd.head) (fun w' hw' => numberR_c w' g11 (hG w' hw'.ext) _ _ _ y7 _ (hR hr11 w' hw'.ext) hF (hle y7 (by simp)) (hw'.has (Has.tail Has.head))) (fun ia hia => ?_)
              refine RW.nilChk rfl rfl ?_
              refine RW.fieldB fl24x0 rfl rfl ?_
              refine RW.store1 sc3 rfl rfl (by first | exact Upd.head | exact Upd.tail Upd.head | exact Upd.tail (Upd.tail Upd.head) | exact Upd.tail (Upd.tail (Upd.tail Upd.head)) | exact Upd.tail (Upd.tail (Upd.tail (Upd.tail Upd.head))) | exact Upd.tail (Upd.tail (Upd.tail (Upd.tail (Upd.tail Upd.head)))) | exact Upd.tail (Upd.tail (Upd.tail (Upd.tail (Upd.tail (Upd.tail Upd.head)))))) rfl (by first | exact Nat.le_of_ble_eq_true rfl | simp) ?_
              refine RW.nil (EX.seq ?_)
              -- mq: region
              refine CW.sub (H' := SH w3 (feet [blk g2 zeroB.cells 26]) [blk g5 (blkOf idn ph code has (decide (x3 = cutW true)) [p0, p1, p2, (ia.1, 0)]).cells 26, rdr g11 (WS.advN 12 ⟨A4, n4, c4⟩) ia.2, blk g2 zeroB.cells 26]) ?_ (Sub.refl _) (fun x hx => hx.blkEq (by kernel_rfl))
              refine CW.region ?_
              refine RW.move rfl rfl ?_
              refine RW.move rfl rfl ?_
              refine RW.callUI (fun i : Int × Bool => [blk g5 (blkOf idn ph code has (decide (x3 = cutW true)) [p0, p1, p2, (ia.1, 0)]).cells 26, rdr g11 (WS.advN 13 ⟨A4, n4, c4⟩) i.2, blk g2 zeroB.cells 26]) rfl ca38 rfl (fun _ => Upd.tail Upd.head) (fun w' hw' => numberR_c w' g11 (hG w' hw'.ext) _ _ _ y8 _ (hR hr12 w' hw'.ext) hF (hle y8 (by simp)) (hw'.has (Has.tail Has.head))) (fun ib hib => ?_)
              refine RW.nilChk rfl rfl ?_
              refine RW.fieldB fl24x1 rfl rfl ?_
              refine RW.store1 sc3 rfl rfl (by first | exact Upd.head | exact Upd.tail Upd.head | exact Upd.tail (Upd.tail Upd.head) | exact Upd.tail (Upd.tail (Upd.tail Upd.head)) | exact Upd.tail (Upd.tail (Upd.tail (Upd.tail Upd.head))) | exact Upd.tail (Upd.tail (Upd.tail (Upd.tail (Upd.tail Upd.head)))) | exact Upd.tail (Upd.tail (Upd.tail (Upd.tail (Upd.tail (Upd.tail Upd.head)))))) rfl (by first | exact Nat.le_of_ble_eq_true rfl | simp) ?_
              refine RW.nil (EX.bkN (EX.seq (CW.region ?_)))
              refine RW.add rfl rfl rfl (wrap64 (by omega) (by omega)) ?_
              refine RW.move rfl rfl ?_
              refine RW.nil ?_
              -- mq: loopend
              exact EX.lpN (4, [p0, p1, p2, (ia.1, ib.1)], ib.2) ⟨by dsimp only; omega, rfl, PosR.snoc hpr hia hib⟩ (by dsimp only; omega) (by repeat (first | exact Sub.nil | refine Sub.cons (by rfl) ?_)) (fun w' hw' => hw'.blkEq (by kernel_rfl))
            · skip
              obtain ⟨p0, p1, p2, p3, rfl⟩ : ∃ p0 p1 p2 p3, ps = [p0, p1, p2, p3] := by match ps, hps with | [p0, p1, p2, p3], _ => exact ⟨p0, p1, p2, p3, rfl⟩
              refine CW.skip (EX.seq (CW.seq (CW.block (CW.seq (CW.region ?_)))))
              refine RW.ixValS (q := 4) Tryd.underlying56 sc55 rfl rfl rfl (by omega) (by omega) rfl ?_
              refine RW.assign rfl rfl ?_
              refine RW.nil (EX.seq (CW.seq ?_))
              -- mq: region
              refine CW.region ?_
              refine RW.move rfl rfl ?_
              refine RW.move rfl rfl ?_
              refine RW.callUI (fun i : Int × Bool => [blk g5 (blkOf idn ph code has (decide (x3 = cutW true)) [p0, p1, p2, p3]).cells 26, rdr g11 (WS.advN 14 ⟨A4, n4, c4⟩) i.2, blk g2 zeroB.cells 26]) rfl ca38 rfl (fun _ => Upd.tail Upd.head) (fun w' hw' => numberR_c w' g11 (hG w' hw'.ext) _ _ _ y9 _ (hR hr13 w' hw'.ext) hF (hle y9 (by simp)) (hw'.has (Has.tail Has.head))) (fun ia hia => ?_)
              refine RW.nilChk rfl rfl ?_
              refine RW.fieldB fl24x0 rfl rfl ?_
              refine RW.store1 sc3 rfl rfl (by first | exact Upd.head | exact Upd.tail Upd.head | exact Upd.tail (Upd.tail Upd.head) | exact Upd.tail (Upd.tail (Upd.tail Upd.head)) | exact Upd.tail (Upd.tail (Upd.tail (Upd.tail Upd.head))) | exact Upd.tail (Upd.tail (Upd.tail (Upd.tail (Upd.tail Upd.head)))) | exact Upd.tail (Upd.tail (Upd.tail (Upd.tail (Upd.tail (Upd.tail Upd.head)))))) rfl (by first | exact Nat.le_of_ble_eq_true rfl | simp) ?_
              refine RW.nil (EX.seq ?_)
              -- mq: region
              refine CW.sub (H' := SH w3 (feet [blk g2 zeroB.cells 26]) [blk g5 (blkOf idn ph code has (decide (x3 = cutW true)) [p0, p1, p2, p3, (ia.1, 0)]).cells 26, rdr g11 (WS.advN 14 ⟨A4, n4, c4⟩) ia.2, blk g2 zeroB.cells 26]) ?_ (Sub.refl _) (fun x hx => hx.blkEq (by kernel_rfl))
              refine CW.region ?_
              refine RW.move rfl rfl ?_
              refine RW.move rfl rfl ?_
              refine RW.callUI (fun i : Int × Bool => [blk g5 (blkOf idn ph code has (decide (x3 = cutW true)) [p0, p1, p2, p3, (ia.1, 0)]).cells 26, rdr g11 (WS.advN 15 ⟨A4, n4, c4⟩) i.2, blk g2 zeroB.cells 26]) rfl ca38 rfl (fun _ => Upd.tail Upd.head) (fun w' hw' => numberR_c w' g11 (hG w' hw'.ext) _ _ _ y10 _ (hR hr14 w' hw'.ext) hF (hle y10 (by simp)) (hw'.has (Has.tail Has.head))) (fun ib hib => ?_)
              refine RW.nilChk rfl rfl ?_
              refine RW.fieldB fl24x1 rfl rfl ?_
              refine RW.store1 sc3 rfl rfl (by first | exact Upd.head | exact Upd.tail Upd.head | exact Upd.tail (Upd.tail Upd.head) | exact Upd.tail (Upd.tail (Upd.tail Upd.head)) | exact Upd.tail (Upd.tail (Upd.tail (Upd.tail Upd.head))) | exact Upd.tail (Upd.tail (Upd.tail (Upd.tail (Upd.tail Upd.head)))) | exact Upd.tail (Upd.tail (Upd.tail (Upd.tail (Upd.tail (Upd.tail Upd.head)))))) rfl (by first | exact Nat.le_of_ble_eq_true rfl | simp) ?_
              refine RW.nil (EX.bkN (EX.seq (CW.region ?_)))
              refine RW.add rfl rfl rfl (wrap64 (by omega) (by omega)) ?_
              refine RW.move rfl rfl ?_
              refine RW.nil ?_
              -- mq: loopend
              exact EX.lpN (5, [p0, p1, p2, p3, (ia.1, ib.1)], ib.2) ⟨by dsimp only; omega, rfl, PosR.snoc hpr hia hib⟩ (by dsimp only; omega) (by repeat (first | exact Sub.nil | refine Sub.cons (by rfl) ?_)) (fun w' hw' => hw'.blkEq (by kernel_rfl))
          · skip
            obtain rfl : k = 5 := by omega
            obtain ⟨p0, p1, p2, p3, p4, rfl⟩ : ∃ p0 p1 p2 p3 p4, ps = [p0, p1, p2, p3, p4] := by match ps, hps with | [p0, p1, p2, p3, p4], _ => exact ⟨p0, p1, p2, p3, p4, rfl⟩
            refine CW.exit (EX.seqE (EX.lpE (EX.bkE (EX.seq (CW.seq ?_)))))
            -- mq: region
            refine CW.sub (H' := SH w3 (feet [blk g2 zeroB.cells 26]) [blk g5 (BlkV.mk idn ph p0.1 p0.2 p1.1 p1.2 p2.1 p2.2 p3.1 p3.2 p4.1 p4.2 code has (decide (x3 = cutW true)) [] []).cells 26, rdr g11 (WS.advN 15 ⟨A4, n4, c4⟩) f, blk g2 zeroB.cells 26]) ?_ (Sub.refl _) (fun x hx => hx.blkEq (by kernel_rfl))
            refine CW.region ?_
            refine RW.move rfl rfl ?_
            refine RW.callUI (fun i : List UInt8 × Bool => [blk g5 (BlkV.mk idn ph p0.1 p0.2 p1.1 p1.2 p2.1 p2.2 p3.1 p3.2 p4.1 p4.2 code has (decide (x3 = cutW true)) [] []).cells 26, rdr g11 (WS.advN 16 ⟨A4, n4, c4⟩) i.2, blk g2 zeroB.cells 26]) rfl ca39 rfl (fun _ => Upd.tail Upd.head) (fun w' hw' => textR_c w' g11 (hG w' hw'.ext) _ _ _ x15 _ (hR hr15 w' hw'.ext) hF (hle x15 (by simp)) (hw'.has (Has.tail Has.head))) (fun t1 ht1 => ?_)
            refine RW.fieldB fl26x10 rfl rfl ?_
            refine RW.store1 sc9 rfl rfl (by first | exact Upd.head | exact Upd.tail Upd.head | exact Upd.tail (Upd.tail Upd.head) | exact Upd.tail (Upd.tail (Upd.tail Upd.head)) | exact Upd.tail (Upd.tail (Upd.tail (Upd.tail Upd.head))) | exact Upd.tail (Upd.tail (Upd.tail (Upd.tail (Upd.tail Upd.head)))) | exact Upd.tail (Upd.tail (Upd.tail (Upd.tail (Upd.tail (Upd.tail Upd.head)))))) rfl (by first | exact Nat.le_of_ble_eq_true rfl | simp) ?_
            refine RW.nil (EX.seq (CW.seq ?_))
            -- mq: region
            refine CW.sub (H' := SH w3 (feet [blk g2 zeroB.cells 26]) [blk g5 (BlkV.mk idn ph p0.1 p0.2 p1.1 p1.2 p2.1 p2.2 p3.1 p3.2 p4.1 p4.2 code has (decide (x3 = cutW true)) t1.1 []).cells 26, rdr g11 (WS.advN 16 ⟨A4, n4, c4⟩) t1.2, blk g2 zeroB.cells 26]) ?_ (Sub.refl _) (fun x hx => hx.blkEq (by kernel_rfl))
            refine CW.region ?_
            refine RW.move rfl rfl ?_
            refine RW.callUI (fun i : List UInt8 × Bool => [blk g5 (BlkV.mk idn ph p0.1 p0.2 p1.1 p1.2 p2.1 p2.2 p3.1 p3.2 p4.1 p4.2 code has (decide (x3 = cutW true)) t1.1 []).cells 26, rdr g11 (WS.advN 17 ⟨A4, n4, c4⟩) i.2, blk g2 zeroB.cells 26]) rfl ca39 rfl (fun _ => Upd.tail Upd.head) (fun w' hw' => textR_c w' g11 (hG w' hw'.ext) _ _ _ x16 _ (hR hr16 w' hw'.ext) hF (hle x16 (by simp)) (hw'.has (Has.tail Has.head))) (fun t2 ht2 => ?_)
            refine RW.fieldB fl26x11 rfl rfl ?_
            refine RW.store1 sc9 rfl rfl (by first | exact Upd.head | exact Upd.tail Upd.head | exact Upd.tail (Upd.tail Upd.head) | exact Upd.tail (Upd.tail (Upd.tail Upd.head)) | exact Upd.tail (Upd.tail (Upd.tail (Upd.tail Upd.head))) | exact Upd.tail (Upd.tail (Upd.tail (Upd.tail (Upd.tail Upd.head)))) | exact Upd.tail (Upd.tail (Upd.tail (Upd.tail (Upd.tail (Upd.tail Upd.head)))))) rfl (by first | exact Nat.le_of_ble_eq_true rfl | simp) ?_
            refine RW.nil (EX.seq (CW.seq (CW.seq ?_)))
            -- mq: region
            refine CW.sub (H' := SH w3 (feet [blk g2 zeroB.cells 26]) [blk g5 (BlkV.mk idn ph p0.1 p0.2 p1.1 p1.2 p2.1 p2.2 p3.1 p3.2 p4.1 p4.2 code has (decide (x3 = cutW true)) t1.1 t2.1).cells 26, rdr g11 (WS.advN 17 ⟨A4, n4, c4⟩) t2.2, blk g2 zeroB.cells 26]) ?_ (Sub.refl _) (fun x hx => hx.blkEq (by kernel_rfl))
            have hread : ReadB x1 x2 x3 x4 [y1, y2, y3, y4, y5, y6, y7, y8, y9, y10] x15 x16 (BlkV.mk idn ph p0.1 p0.2 p1.1 p1.2 p2.1 p2.2 p3.1 p3.2 p4.1 p4.2 code has (decide (x3 = cutW true)) t1.1 t2.1) t2.2 := ⟨f1, f2, f4, f, t1.2, hi1, hi2, rfl, hcode, hpr, ht1, ht2⟩
            have hans := parseD_read h17 hread
            obtain ⟨tx, tf⟩ := t2
            dsimp only at hread hans ⊢
            generalize hB : (BlkV.mk idn ph p0.1 p0.2 p1.1 p1.2 p2.1 p2.2 p3.1 p3.2 p4.1 p4.2 code has (decide (x3 = cutW true)) t1.1 tx) = b' at hread hans ⊢
            cases tf with
            | true =>
              refine CW.region ?_
              refine RW.move rfl rfl ?_
              refine RW.nilChk rfl rfl ?_
              refine RW.fieldB fl68x1 rfl rfl ?_
              refine RW.loadB1 sc4 rfl rfl (by first | exact Has.head | exact Has.tail Has.head | exact Has.tail (Has.tail Has.head) | exact Has.tail (Has.tail (Has.tail Has.head)) | exact Has.tail (Has.tail (Has.tail (Has.tail Has.head))) | exact Has.tail (Has.tail (Has.tail (Has.tail (Has.tail Has.head)))) | exact Has.tail (Has.tail (Has.tail (Has.tail (Has.tail (Has.tail Has.head)))))) rfl ?_
              refine RW.move rfl rfl ?_
              refine RW.guardF rfl rfl rfl rfl ?_
              refine RW.guardF rfl rfl rfl rfl ?_
              refine RW.guardF rfl rfl rfl rfl ?_
              refine RW.pickB rfl rfl rfl rfl ?_
              refine RW.nil (EX.seq ?_)
              -- mq: cond
              refine CW.condT rfl (rfl) ?_
              refine CW.sub (H' := SH w3 (feet [blk g2 zeroB.cells 26]) [blk g5 b'.cells 26, rdr g11 (WS.advN 17 ⟨A4, n4, c4⟩) true, blk g2 [.int .u64 0, .int .i64 0, .int .i64 0, .int .i64 0, .int .i64 0, .int .i64 0, .int .i64 0, .int .i64 0, .int .i64 0, .int .i64 0, .int .i64 0, .int .i64 0, .int .i64 0, .bool false, .bool false, .string ByteArray.empty, .string ByteArray.empty] 26]) ?_ (Sub.refl _) (fun x hx => hx.csEq (by kernel_rfl))
              refine CW.seq (CW.region ?_)
              refine RW.buildS bu26 rfl rfl rfl ?_
              refine RW.storeA ag26 rfl rfl (by first | exact Upd.head | exact Upd.tail Upd.head | exact Upd.tail (Upd.tail Upd.head) | exact Upd.tail (Upd.tail (Upd.tail Upd.head)) | exact Upd.tail (Upd.tail (Upd.tail (Upd.tail Upd.head))) | exact Upd.tail (Upd.tail (Upd.tail (Upd.tail (Upd.tail Upd.head)))) | exact Upd.tail (Upd.tail (Upd.tail (Upd.tail (Upd.tail (Upd.tail Upd.head)))))) (by first | rfl | exact Enc.len _ _) (by repeat (first | exact Ones.nil | exact Enc.ones _ _ | refine Ones.cons rfl ?_)) (by first | exact Nat.le_of_ble_eq_true rfl | (simp only [Enc.len]; decide)) ?_
              refine RW.assign rfl rfl ?_
              refine RW.nil (EX.seq (CW.ret (EX.seqR ?_)))
              refine EX.fin2' Tryd.results17 (RV.cellA ag26 rfl (by first | exact Has.head | exact Has.tail Has.head | exact Has.tail (Has.tail Has.head) | exact Has.tail (Has.tail (Has.tail Has.head)) | exact Has.tail (Has.tail (Has.tail (Has.tail Has.head))) | exact Has.tail (Has.tail (Has.tail (Has.tail (Has.tail Has.head)))) | exact Has.tail (Has.tail (Has.tail (Has.tail (Has.tail (Has.tail Has.head)))))) rfl rfl) (RV.tmp rfl) (fun wz hw => ?_)
              -- mq: done
              exact ⟨by rw [hans, if_neg (by rintro ⟨h, _⟩; cases h)]; rfl, ((hw.rem Rem.head).rem Rem.head).unbase hx13 hcv |>.ext⟩
            | false =>
              refine CW.region ?_
              refine RW.move rfl rfl ?_
              refine RW.nilChk rfl rfl ?_
              refine RW.fieldB fl68x1 rfl rfl ?_
              refine RW.loadB1 sc4 rfl rfl (by first | exact Has.head | exact Has.tail Has.head | exact Has.tail (Has.tail Has.head) | exact Has.tail (Has.tail (Has.tail Has.head)) | exact Has.tail (Has.tail (Has.tail (Has.tail Has.head))) | exact Has.tail (Has.tail (Has.tail (Has.tail (Has.tail Has.head)))) | exact Has.tail (Has.tail (Has.tail (Has.tail (Has.tail (Has.tail Has.head)))))) rfl ?_
              refine RW.move rfl rfl ?_
              refine RW.guardT rfl rfl rfl ?_
              refine RW.loadBA ag26 rfl rfl (by first | exact Has.head | exact Has.tail Has.head | exact Has.tail (Has.tail Has.head) | exact Has.tail (Has.tail (Has.tail Has.head)) | exact Has.tail (Has.tail (Has.tail (Has.tail Has.head))) | exact Has.tail (Has.tail (Has.tail (Has.tail (Has.tail Has.head)))) | exact Has.tail (Has.tail (Has.tail (Has.tail (Has.tail (Has.tail Has.head)))))) rfl rfl ?_
              refine RW.guardT rfl rfl rfl ?_
              refine RW.call rfl ca27 rfl (fun w' _ => told_c w' b') ?_
              refine RW.guardT rfl rfl rfl ?_
              refine RW.not_ rfl rfl ?_
              refine RW.pickC rfl rfl rfl rfl ?_
              refine RW.nil (EX.seq ?_)
              -- mq: cond
              first | refine CW.condD rfl (fun ht => ?_) (fun ht => ?_) | refine CW.cond rfl (fun ht => ?_) (fun ht => ?_)
              · skip
                refine CW.sub (H' := SH w3 (feet [blk g2 zeroB.cells 26]) [blk g5 b'.cells 26, rdr g11 (WS.advN 17 ⟨A4, n4, c4⟩) false, blk g2 [.int .u64 0, .int .i64 0, .int .i64 0, .int .i64 0, .int .i64 0, .int .i64 0, .int .i64 0, .int .i64 0, .int .i64 0, .int .i64 0, .int .i64 0, .int .i64 0, .int .i64 0, .bool false, .bool false, .string ByteArray.empty, .string ByteArray.empty] 26]) ?_ (Sub.refl _) (fun x hx => hx.csEq (by kernel_rfl))
                refine CW.seq (CW.region ?_)
                refine RW.buildS bu26 rfl rfl rfl ?_
                refine RW.storeA ag26 rfl rfl (by first | exact Upd.head | exact Upd.tail Upd.head | exact Upd.tail (Upd.tail Upd.head) | exact Upd.tail (Upd.tail (Upd.tail Upd.head)) | exact Upd.tail (Upd.tail (Upd.tail (Upd.tail Upd.head))) | exact Upd.tail (Upd.tail (Upd.tail (Upd.tail (Upd.tail Upd.head)))) | exact Upd.tail (Upd.tail (Upd.tail (Upd.tail (Upd.tail (Upd.tail Upd.head)))))) (by first | rfl | exact Enc.len _ _) (by repeat (first | exact Ones.nil | exact Enc.ones _ _ | refine Ones.cons rfl ?_)) (by first | exact Nat.le_of_ble_eq_true rfl | (simp only [Enc.len]; decide)) ?_
                refine RW.assign rfl rfl ?_
                refine RW.nil (EX.seq (CW.ret (EX.seqR ?_)))
                refine EX.fin2' Tryd.results17 (RV.cellA ag26 rfl (by first | exact Has.head | exact Has.tail Has.head | exact Has.tail (Has.tail Has.head) | exact Has.tail (Has.tail (Has.tail Has.head)) | exact Has.tail (Has.tail (Has.tail (Has.tail Has.head))) | exact Has.tail (Has.tail (Has.tail (Has.tail (Has.tail Has.head)))) | exact Has.tail (Has.tail (Has.tail (Has.tail (Has.tail (Has.tail Has.head)))))) rfl rfl) (RV.tmp rfl) (fun wz hw => ?_)
                -- mq: done
                exact ⟨by rw [hans, if_neg (fun h => by rw [h.2] at ht; cases ht)]; rfl, ((hw.rem Rem.head).rem Rem.head).unbase hx13 hcv |>.ext⟩
              · skip
                refine CW.sub (H' := SH w3 (feet [blk g2 zeroB.cells 26]) [blk g5 b'.cells 26, rdr g11 (WS.advN 17 ⟨A4, n4, c4⟩) false, blk g2 [.int .u64 0, .int .i64 0, .int .i64 0, .int .i64 0, .int .i64 0, .int .i64 0, .int .i64 0, .int .i64 0, .int .i64 0, .int .i64 0, .int .i64 0, .int .i64 0, .int .i64 0, .bool false, .bool false, .string ByteArray.empty, .string ByteArray.empty] 26]) ?_ (Sub.refl _) (fun x hx => hx.csEq (by kernel_rfl))
                refine CW.skip (EX.seq (CW.seq (CW.region ?_)))
                refine RW.loadBA ag26 rfl rfl (by first | exact Has.head | exact Has.tail Has.head | exact Has.tail (Has.tail Has.head) | exact Has.tail (Has.tail (Has.tail Has.head)) | exact Has.tail (Has.tail (Has.tail (Has.tail Has.head))) | exact Has.tail (Has.tail (Has.tail (Has.tail (Has.tail Has.head)))) | exact Has.tail (Has.tail (Has.tail (Has.tail (Has.tail (Has.tail Has.head)))))) rfl rfl ?_
                refine RW.storeA ag26 rfl rfl (by first | exact Upd.head | exact Upd.tail Upd.head | exact Upd.tail (Upd.tail Upd.head) | exact Upd.tail (Upd.tail (Upd.tail Upd.head)) | exact Upd.tail (Upd.tail (Upd.tail (Upd.tail Upd.head))) | exact Upd.tail (Upd.tail (Upd.tail (Upd.tail (Upd.tail Upd.head)))) | exact Upd.tail (Upd.tail (Upd.tail (Upd.tail (Upd.tail (Upd.tail Upd.head)))))) (by first | rfl | exact Enc.len _ _) (by repeat (first | exact Ones.nil | exact Enc.ones _ _ | refine Ones.cons rfl ?_)) (by first | exact Nat.le_of_ble_eq_true rfl | (simp only [Enc.len]; decide)) ?_
                refine RW.assign rfl rfl ?_
                refine RW.nil (EX.seq (CW.ret ?_))
                refine EX.fin2' Tryd.results17 (RV.cellA ag26 rfl (by first | exact Has.head | exact Has.tail Has.head | exact Has.tail (Has.tail Has.head) | exact Has.tail (Has.tail (Has.tail Has.head)) | exact Has.tail (Has.tail (Has.tail (Has.tail Has.head))) | exact Has.tail (Has.tail (Has.tail (Has.tail (Has.tail Has.head)))) | exact Has.tail (Has.tail (Has.tail (Has.tail (Has.tail (Has.tail Has.head)))))) rfl rfl) (RV.tmp rfl) (fun wz hw => ?_)
                -- mq: done
                exact ⟨by rw [hans, if_pos ⟨rfl, nb_t ht⟩]; rfl, ((hw.rem Rem.head).rem Rem.head).unbase hx13 hcv |>.ext⟩
end Go.Proofs.YtnkdabjahmjdoaaDoor.Mq
