/- dump: walks of great, awake, DumpBriefs, DumpApart -/
import Derived.Test.YtnkdabjahmjdoaaDoorD4
import Derived.Test.YtnkdabjahmjdoaaDoorD5
namespace Go.Proofs.YtnkdabjahmjdoaaDoor.Mq
open Go Go.RowKit Go.Proofs

def bigB (b : BlkV) : Bool := decide (400 < b.dir.length) || decide (400 < b.line.length)
def greatD (L : List BlkV) : Bool := (L.take 60).any bigB || decide (60 < L.length)
theorem great_c (w : World) (F : Nat → Prop) (A : Option Addr) (n c : Nat) (L : List BlkV) (hr : Rd EBlk w F A n c L) :
    Calls Tryd.prog 9 [.slice A n c].toArray w (fun e w' => e = .returned (.bool (greatD L)) ∧ Ext [] w w') := by
  have hl := hr.len
  refine calls (n := 33) Tryd.func9 rfl Tryd.ntmps9 rfl ?_
  refine CW.sub (H' := SH w [] []) ?_ (Sub.refl _) (fun x hx => SH.start' _ _ hx)
  refine CW.seq (CW.region ?_)
  refine RW.assign rfl rfl ?_
  refine RW.nil (EX.seq (CW.seq (CW.seq (CW.region ?_))))
  refine RW.assign rfl rfl ?_
  refine RW.nil (EX.seq (CW.block ?_))
  -- mq: loop
  refine CW.loop (ι := Nat) (fun k => [(0, .slice A n c), (3, .int .i64 (k : Int))]) (fun _ => SH w [] []) (fun k => k ≤ n ∧ k ≤ 60 ∧ (L.take k).any bigB = false) (fun k => n - k) ?_ ?_
  · exact fun w hw => ⟨0, ⟨Nat.zero_le _, by decide, by simp⟩, (by repeat (first | exact Sub.nil | refine Sub.cons (by rfl) ?_)), hw⟩
  · rintro k ⟨hk, hk6, hall⟩
    have hend : (¬ k < n ∨ ¬ k < 60) → greatD L = decide (60 < (n : Int)) := fun h => by
      unfold greatD
      rw [show (L.take 60).any bigB = false from by
        rcases (show k = n ∨ k = 60 by omega) with e | e
        · rw [List.take_of_length_le (by omega)] at hall
          rw [List.any_eq_false] at hall ⊢
          exact fun x hx => hall x (List.mem_of_mem_take hx)
        · rw [e] at hall; exact hall, Bool.false_or]
      exact decide_eq_decide.2 (by omega)
    refine CW.seq (CW.seq (CW.region ?_))
    refine RW.move rfl rfl ?_
    refine RW.move rfl rfl ?_
    refine RW.lenSl Tryd.underlying28 rfl rfl ?_
    refine RW.lss rfl rfl rfl ?_
    refine RW.move rfl rfl ?_
    -- mq: guard slot 8
    refine RW.casesB 8 rfl (fun h1 => ?_) (fun h1 => ?_)
    · skip
      have h1p := of_decide_eq_true h1
      refine RW.guardT rfl rfl h1 ?_
      refine RW.move rfl rfl ?_
      refine RW.guardT rfl rfl h1 ?_
      refine RW.lss rfl rfl rfl ?_
      refine RW.pickB rfl rfl h1 rfl ?_
      refine RW.nil (EX.seq ?_)
      -- mq: cond
      first | refine CW.condD rfl (fun h2 => ?_) (fun h2 => ?_) | refine CW.cond rfl (fun h2 => ?_) (fun h2 => ?_)
      · skip
        obtain ⟨b, hb⟩ : ∃ b, L[k]? = some b := ⟨L[k]'(by omega), List.getElem?_eq_getElem _⟩
        obtain ⟨ad, hA, _, hcell⟩ := hr.at_ hb
        have htk : (L.take (k + 1)).any bigB = ((L.take k).any bigB || bigB b) := by
          rw [List.take_add_one, hb, Option.toList_some, List.any_append]; simp
        have hbig : bigB b = true → greatD L = true := fun h => by
          unfold greatD
          rw [List.any_eq_true.2 ⟨b, List.mem_of_getElem? (i := k) (by rw [List.getElem?_take, if_pos (by omega)]; exact hb), h⟩]; rfl
        refine CW.skip (EX.seq (CW.seq (CW.block (CW.seq (CW.region ?_)))))
        refine RW.move rfl rfl ?_
        refine RW.move rfl rfl ?_
        refine RW.ixAddr (q := k) sl28 rfl rfl rfl (by first | rfl | assumption) (by omega) (by omega) ?_
        refine RW.fieldP fl26x10 rfl rfl ?_
        refine RW.load1 sc9 rfl rfl (fun w' hw' => hw'.base_cell (hcell 15 _ rfl) (by simp)) ?_
        refine RW.lenS Tryd.underlying9 rfl rfl ?_
        refine RW.gtr rfl rfl rfl ?_
        refine RW.move rfl rfl ?_
        -- mq: guard slot 21
        refine RW.casesB 21 rfl (fun h3 => ?_) (fun h3 => ?_)
        · skip
          have h3p := of_decide_eq_true h3
          refine RW.guardF rfl rfl rfl h3 ?_
          refine RW.guardF rfl rfl rfl h3 ?_
          refine RW.guardF rfl rfl rfl h3 ?_
          refine RW.guardF rfl rfl rfl h3 ?_
          refine RW.guardF rfl rfl rfl h3 ?_
          refine RW.guardF rfl rfl rfl h3 ?_
          refine RW.guardF rfl rfl rfl h3 ?_
          refine RW.pickB rfl rfl h3 rfl ?_
          refine RW.nil (EX.seq ?_)
          -- mq: cond
          refine CW.condT rfl (rfl) ?_
          refine CW.seq (CW.region ?_)
          refine RW.assign rfl rfl ?_
          refine RW.nil (EX.seq (CW.ret (EX.bkR (EX.seqR (EX.lpR (EX.bkR (EX.seqR ?_)))))))
          refine EX.fin1 Tryd.results9 rfl (fun wz hw => ?_)
          -- mq: done
          exact ⟨by rw [hbig (by unfold bigB; rw [decide_eq_true (by omega)]; rfl)], hw.ext⟩
        · skip
          have h3p := of_decide_eq_false h3
          refine RW.guardT rfl rfl h3 ?_
          refine RW.move rfl rfl ?_
          refine RW.guardT rfl rfl h3 ?_
          refine RW.move rfl rfl ?_
          refine RW.guardT rfl rfl h3 ?_
          refine RW.ixAddr (q := k) sl28 rfl rfl rfl (by first | rfl | assumption) (by omega) (by omega) ?_
          refine RW.guardT rfl rfl h3 ?_
          refine RW.fieldP fl26x11 rfl rfl ?_
          refine RW.guardT rfl rfl h3 ?_
          refine RW.load1 sc9 rfl rfl (fun w' hw' => hw'.base_cell (hcell 16 _ rfl) (by simp)) ?_
          refine RW.guardT rfl rfl h3 ?_
          refine RW.lenS Tryd.underlying9 rfl rfl ?_
          refine RW.guardT rfl rfl h3 ?_
          refine RW.gtr rfl rfl rfl ?_
          refine RW.pickC rfl rfl h3 rfl ?_
          refine RW.nil (EX.seq ?_)
          -- mq: cond
          first | refine CW.condD rfl (fun h4 => ?_) (fun h4 => ?_) | refine CW.cond rfl (fun h4 => ?_) (fun h4 => ?_)
          · skip
            refine CW.seq (CW.region ?_)
            refine RW.assign rfl rfl ?_
            refine RW.nil (EX.seq (CW.ret (EX.bkR (EX.seqR (EX.lpR (EX.bkR (EX.seqR ?_)))))))
            refine EX.fin1 Tryd.results9 rfl (fun wz hw => ?_)
            -- mq: done
            exact ⟨by rw [hbig (by unfold bigB; rw [decide_eq_true (show 400 < b.line.length by omega), Bool.or_true])], hw.ext⟩
          · skip
            refine CW.skip (EX.bkN (EX.seq (CW.region ?_)))
            refine RW.move rfl rfl ?_
            refine RW.add rfl rfl rfl (wrap64 (by omega) (by omega)) ?_
            refine RW.assign rfl rfl ?_
            refine RW.nil ?_
            -- mq: loopend
            refine EX.lpN (k + 1) ⟨by omega, by omega, ?_⟩ (by omega) (by repeat (first | exact Sub.nil | refine Sub.cons (by rfl) ?_)) (fun w' hw' => hw')
            rw [htk, hall, bigB, decide_eq_false (show ¬ 400 < b.dir.length by omega), decide_eq_false (show ¬ 400 < b.line.length by omega)]; rfl
      · skip
        refine CW.exit (EX.seqE (EX.lpE (EX.bkE (EX.seq (CW.seq (CW.region ?_))))))
        refine RW.move rfl rfl ?_
        refine RW.lenSl Tryd.underlying28 rfl rfl ?_
        refine RW.gtr rfl rfl rfl ?_
        refine RW.assign rfl rfl ?_
        refine RW.nil (EX.seq (CW.ret ?_))
        refine EX.fin1 Tryd.results9 rfl (fun wz hw => ?_)
        -- mq: done
        exact ⟨by rw [hend (.inr (by omega))], hw.ext⟩
    · skip
      have h1p := of_decide_eq_false h1
      refine RW.guardF rfl rfl rfl h1 ?_
      refine RW.guardF rfl rfl rfl h1 ?_
      refine RW.pickC rfl rfl h1 rfl ?_
      refine RW.nil (EX.seq ?_)
      -- mq: cond
      refine CW.condF rfl (rfl) ?_
      refine CW.exit (EX.seqE (EX.lpE (EX.bkE (EX.seq (CW.seq (CW.region ?_))))))
      refine RW.move rfl rfl ?_
      refine RW.lenSl Tryd.underlying28 rfl rfl ?_
      refine RW.gtr rfl rfl rfl ?_
      refine RW.assign rfl rfl ?_
      refine RW.nil (EX.seq (CW.ret ?_))
      refine EX.fin1 Tryd.results9 rfl (fun wz hw => ?_)
      -- mq: done
      exact ⟨by rw [hend (.inl (by omega))], hw.ext⟩
theorem greatD_one {b : BlkV} (h : greatD [b] = false) : b.dir.length ≤ 400 ∧ b.line.length ≤ 400 := by
  simp [greatD, bigB] at h; omega
def exB : BlkV := ⟨1, 4, 0, 0, 0, 2, 1, 0, 3, 0, 3, 0, 0, true, false, [], [108, 115]⟩
theorem it {n : Nat} (h : n < 10) : Lib.itoa (n : Int) = [UInt8.ofNat (48 + n)] := by rw [Lib.itoa_nonneg, dec_small h]
theorem exB_wf : exB.Wf := ⟨by decide, by decide, by decide⟩
theorem exB_told : toldB exB = true := by decide
theorem exB_words : wordsF exB = [[98, 108, 111, 99, 107], [49], [101, 110, 100, 101, 100], [119, 104, 111, 108, 101], [48], [48], [48], [48], [50], [49], [48], [51], [48], [51], [48], [61], [61, 54, 99, 55, 51]] := by
  have h0 := it (n := 0) (by decide)
  have h1 := it (n := 1) (by decide)
  have h2 := it (n := 2) (by decide)
  have h3 := it (n := 3) (by decide)
  have e1 : Lib.decDigits 1 = [49] := dec_small (by decide)
  unfold wordsF posW exB
  simp only [BlkV.pos, List.flatMap_cons, List.flatMap_nil, e1]
  rw [show Lib.itoa 0 = [48] from h0, show Lib.itoa 1 = [49] from h1, show Lib.itoa 2 = [50] from h2, show Lib.itoa 3 = [51] from h3, show codeW true 0 = Lib.itoa 0 from rfl, show Lib.itoa 0 = [48] from h0]
  rfl
theorem exB_line : lineF exB = [98, 108, 111, 99, 107, 32, 49, 32, 101, 110, 100, 101, 100, 32, 119, 104, 111, 108, 101, 32, 48, 32, 48, 32, 48, 32, 48, 32, 50, 32, 49, 32, 48, 32, 51, 32, 48, 32, 51, 32, 48, 32, 61, 32, 61, 54, 99, 55, 51] := by
  rw [lineF, exB_words]; decide
theorem exB_brief : briefF exB = [91, 49, 93, 32, 101, 110, 100, 101, 100, 32, 48, 32, 108, 115] := by
  have h0 : Lib.itoa 0 = [48] := it (n := 0) (by decide)
  have e1 : Lib.decDigits 1 = [49] := dec_small (by decide)
  unfold briefF brief2 brief1 exB
  dsimp only
  rw [h0, e1]
  decide
theorem awake_c (w : World) (hg : Gl w) : Calls Tryd.prog 10 [].toArray w (fun e w' => e = .returned (.bool true) ∧ Ext [] w w') := by
  refine calls (n := 25) Tryd.func10 rfl Tryd.ntmps10 rfl ?_
  refine CW.sub (H' := SH w [] []) ?_ (Sub.refl _) (fun x hx => SH.start' _ _ hx)
  refine CW.seq (CW.region ?_)
  refine RW.assign rfl rfl ?_
  refine RW.nil (EX.seq (CW.seq (CW.region ?_)))
  refine RW.buildS bu24 rfl rfl rfl ?_
  refine RW.buildS bu24 rfl rfl rfl ?_
  refine RW.buildS bu24 rfl rfl rfl ?_
  refine RW.buildS bu24 rfl rfl rfl ?_
  refine RW.buildS bu26 rfl rfl rfl ?_
  refine RW.allocA ag26 rfl (fun g1 hg1 hf1 => ?_)
  refine RW.storeA ag26 rfl rfl (by first | exact Upd.head | exact Upd.tail Upd.head | exact Upd.tail (Upd.tail Upd.head) | exact Upd.tail (Upd.tail (Upd.tail Upd.head)) | exact Upd.tail (Upd.tail (Upd.tail (Upd.tail Upd.head))) | exact Upd.tail (Upd.tail (Upd.tail (Upd.tail (Upd.tail Upd.head)))) | exact Upd.tail (Upd.tail (Upd.tail (Upd.tail (Upd.tail (Upd.tail Upd.head)))))) (by first | rfl | exact Enc.len _ _) (by repeat (first | exact Ones.nil | exact Enc.ones _ _ | refine Ones.cons rfl ?_)) (by first | exact Nat.le_of_ble_eq_true rfl | (simp only [Enc.len]; decide)) ?_
  refine RW.nil (EX.seq (CW.seq ?_))
  -- mq: region
  refine CW.region ?_
  refine RW.loadBA ag26 rfl rfl (by first | exact Has.head | exact Has.tail Has.head | exact Has.tail (Has.tail Has.head) | exact Has.tail (Has.tail (Has.tail Has.head)) | exact Has.tail (Has.tail (Has.tail (Has.tail Has.head))) | exact Has.tail (Has.tail (Has.tail (Has.tail (Has.tail Has.head)))) | exact Has.tail (Has.tail (Has.tail (Has.tail (Has.tail (Has.tail Has.head)))))) rfl rfl ?_
  refine RW.call (v := .tuple #[.string (bs (lineF exB)), .int .i64 0]) rfl ca15 rfl (fun w' hw' => by have h := line_c w' (hg.ext hw'.ext) exB exB_wf; rw [lineR, if_pos exB_told] at h; exact h) ?_
  refine RW.move rfl rfl ?_
  refine RW.extract rfl rfl rfl ?_
  refine RW.extract rfl rfl rfl ?_
  refine RW.assign rfl rfl ?_
  refine RW.assign rfl rfl ?_
  refine RW.nil (EX.seq (CW.seq (CW.region ?_)))
  refine RW.move rfl rfl ?_
  refine RW.eqlI rfl rfl rfl ?_
  refine RW.move rfl rfl ?_
  refine RW.guardT rfl rfl rfl ?_
  refine RW.move rfl rfl ?_
  refine RW.guardT rfl rfl rfl ?_
  refine RW.eqlS rfl rfl rfl ?_
  refine RW.pickB rfl rfl rfl rfl ?_
  refine RW.move rfl rfl ?_
  refine RW.guardT rfl rfl (decide_eq_true exB_line) ?_
  refine RW.loadBA ag26 rfl rfl (by first | exact Has.head | exact Has.tail Has.head | exact Has.tail (Has.tail Has.head) | exact Has.tail (Has.tail (Has.tail Has.head)) | exact Has.tail (Has.tail (Has.tail (Has.tail Has.head))) | exact Has.tail (Has.tail (Has.tail (Has.tail (Has.tail Has.head)))) | exact Has.tail (Has.tail (Has.tail (Has.tail (Has.tail (Has.tail Has.head)))))) rfl rfl ?_
  refine RW.guardT rfl rfl (decide_eq_true exB_line) ?_
  refine RW.call rfl ca12 rfl (fun w' hw' => brief_c w' (hg.ext hw'.ext) exB exB_wf (by decide)) ?_
  refine RW.guardT rfl rfl (decide_eq_true exB_line) ?_
  refine RW.eqlS rfl rfl rfl ?_
  refine RW.pickB rfl rfl (decide_eq_true exB_line) rfl ?_
  refine RW.assign rfl rfl ?_
  refine RW.nil (EX.seq (CW.ret ?_))
  refine EX.fin1 Tryd.results10 rfl (fun wz hw => ?_)
  -- mq: done
  exact ⟨by rw [decide_eq_true exB_brief], hw.ext⟩
theorem Rd.of_blkK {α : Type} {E : Enc α} {b w : World} {S : List Nat} {cs : List Chunk} (h : SH b S cs w) {g t : Nat} {L : List α} {m : Nat} {xs : List Value} (hb : Has cs (blk g xs t)) (hx : xs = E.all L) (hm : L.length = m) (hl : m ≤ maxLen) :
    Rd E w (fun k => k = g) (some ⟨g, 0, none⟩) m m L := by
  subst hx; exact Rd.of_blk h hb hm hl
theorem briefs_c (w : World) (hg : Gl w) (b : BlkV) (hb : b.Wf) (n : Int) :
    Calls Tryd.prog 3 [.agg b.cells.toArray, .int .i64 n].toArray w (fun e w' => e = .returned (.bool true) ∧ Ext [] w w') := by
  refine calls (n := 55) Tryd.func3 rfl Tryd.ntmps3 rfl ?_
  refine CW.sub (H' := SH w [] []) ?_ (Sub.refl _) (fun x hx => SH.start' _ _ hx)
  refine CW.seq (CW.region ?_)
  refine RW.boxA rfl rfl (fun g2 hg2 hf2 => ?_)
  refine RW.assign rfl rfl ?_
  refine RW.nil (EX.seq (CW.seq (CW.seq ?_)))
  -- mq: region
  refine CW.region ?_
  refine RW.loadBA ag26 rfl rfl (by first | exact Has.head | exact Has.tail Has.head | exact Has.tail (Has.tail Has.head) | exact Has.tail (Has.tail (Has.tail Has.head)) | exact Has.tail (Has.tail (Has.tail (Has.tail Has.head))) | exact Has.tail (Has.tail (Has.tail (Has.tail (Has.tail Has.head)))) | exact Has.tail (Has.tail (Has.tail (Has.tail (Has.tail (Has.tail Has.head)))))) rfl rfl ?_
  refine RW.buildSlc sl28 rfl rfl rfl rfl (fun g8 hg8 hf8 => ?_)
  refine RW.call rfl ca9 rfl (fun w' hw' => great_c w' _ _ _ _ [b] (Rd.of_blkK (E := EBlk) hw' Has.head (by kernel_rfl) rfl (by decide))) ?_
  refine RW.move rfl rfl ?_
  -- mq: guard slot 10
  refine RW.casesB 10 rfl (fun hG => ?_) (fun hG => ?_)
  · skip
    refine RW.guardF rfl rfl rfl hG ?_
    refine RW.guardF rfl rfl rfl hG ?_
    refine RW.pickB rfl rfl hG rfl ?_
    refine RW.nil (EX.seq ?_)
    -- mq: cond
    refine CW.condT rfl (rfl) ?_
    refine CW.seq (CW.region ?_)
    refine RW.call rfl ca10 rfl (fun w' hw' => awake_c w' (hg.ext hw'.ext)) ?_
    refine RW.assign rfl rfl ?_
    refine RW.nil (EX.seq (CW.ret (EX.seqR ?_)))
    refine EX.fin1 Tryd.results3 rfl (fun wz hw => ?_)
    -- mq: done
    exact ⟨rfl, hw.ext⟩
  · skip
    obtain ⟨hd4, hl4⟩ := greatD_one hG
    refine RW.guardT rfl rfl hG ?_
    refine RW.call rfl ca10 rfl (fun w' hw' => awake_c w' (hg.ext hw'.ext)) ?_
    refine RW.guardT rfl rfl hG ?_
    refine RW.not_ rfl rfl ?_
    refine RW.pickC rfl rfl hG rfl ?_
    refine RW.nil (EX.seq ?_)
    -- mq: cond
    refine CW.condF rfl (rfl) ?_
    refine CW.skip (EX.seq (CW.seq ?_))
    -- mq: region
    refine CW.region ?_
    refine RW.move rfl rfl ?_
    refine RW.call rfl ca11 rfl (fun w' _ => phase_c w' n) ?_
    refine RW.move rfl rfl ?_
    refine RW.extract rfl rfl rfl ?_
    refine RW.extract rfl rfl rfl ?_
    refine RW.assign rfl rfl ?_
    refine RW.assign rfl rfl ?_
    refine RW.nil (EX.seq (CW.seq ?_))
    -- mq: seq
    refine CW.seq (CW.region ?_)
    refine RW.move rfl rfl ?_
    refine RW.lss rfl rfl rfl ?_
    refine RW.move rfl rfl ?_
    -- mq: guard slot 22
    refine RW.casesB 22 rfl (fun h1 => ?_) (fun h1 => ?_)
    · skip
      have h1p := of_decide_eq_true h1
      refine RW.guardF rfl rfl rfl h1 ?_
      refine RW.guardF rfl rfl rfl h1 ?_
      refine RW.pickB rfl rfl h1 rfl ?_
      refine RW.nil (EX.seq ?_)
      -- mq: cond
      refine CW.condT rfl (rfl) ?_
      refine CW.seq ?_
      -- mq: region
      refine CW.drawU [0, 1, 2, 3, 4, 5, 6, 7, 9] 2 [[(8, false, []), (10, false, [11, 12, 13])]] (Ch [blk g2 b.cells 26]) mixed (by kernel_rfl) (fun _ hw => hw.drew) (fun _ h => (by first | trivial | exact h | exact h.ch | exact (h.rem Rem.head).ch | exact ((h.rem Rem.head).rem Rem.head).ch | exact (((h.rem Rem.head).rem Rem.head).rem Rem.head).ch)) ?_
      refine QuP.cons rfl (fun wq hq => (RW.move rfl rfl RW.jn)) ?_
      refine QuP.cons rfl (fun wq hq => (RW.eqlS rfl rfl rfl RW.jn)) ?_
      refine QuP.cons rfl (fun wq hq => (RW.move rfl rfl RW.jn)) ?_
      refine QuP.cons rfl (fun wq hq => RW.guardT rfl rfl ((by rw [phaseW, if_neg (by omega), if_neg (by omega), if_neg (by omega), if_neg (by omega), if_neg (by omega)]; rfl)) (RW.move rfl rfl RW.jn)) ?_
      refine QuP.cons rfl (fun wq hq => RW.guardT rfl rfl ((by rw [phaseW, if_neg (by omega), if_neg (by omega), if_neg (by omega), if_neg (by omega), if_neg (by omega)]; rfl)) (RW.not_ rfl rfl RW.jn)) ?_
      refine QuP.cons rfl (fun wq hq => (RW.pickB rfl rfl (by rw [phaseW, if_neg (by omega), if_neg (by omega), if_neg (by omega), if_neg (by omega), if_neg (by omega)]; rfl) rfl RW.jn)) ?_
      refine QuP.cons rfl (fun wq hq => (RW.move rfl rfl RW.jn)) ?_
      refine QuP.cons rfl (fun wq hq => RW.guardT rfl rfl ((by rw [decide_eq_false (by omega)]; rfl)) (RW.loadA ag26 rfl rfl rfl (fun w1 e1 j u hj => by subst e1; exact hq.blk_at (sz := 17) (by first | exact Has.head | exact Has.tail Has.head | exact Has.tail (Has.tail Has.head) | exact Has.tail (Has.tail (Has.tail Has.head)) | exact Has.tail (Has.tail (Has.tail (Has.tail Has.head))) | exact Has.tail (Has.tail (Has.tail (Has.tail (Has.tail Has.head)))) | exact Has.tail (Has.tail (Has.tail (Has.tail (Has.tail (Has.tail Has.head)))))) rfl j u hj) RW.jn)) ?_
      refine QuP.cons rfl (fun wq hq => RW.guardT rfl rfl ((by rw [decide_eq_false (by omega)]; rfl)) (RW.loadA ag26 rfl rfl rfl (fun w1 e1 j u hj => by subst e1; exact hq.blk_at (sz := 17) (by first | exact Has.head | exact Has.tail Has.head | exact Has.tail (Has.tail Has.head) | exact Has.tail (Has.tail (Has.tail Has.head)) | exact Has.tail (Has.tail (Has.tail (Has.tail Has.head))) | exact Has.tail (Has.tail (Has.tail (Has.tail (Has.tail Has.head)))) | exact Has.tail (Has.tail (Has.tail (Has.tail (Has.tail (Has.tail Has.head)))))) rfl j u hj) RW.jn)) ?_
      refine QuP.nil ?_
      refine UW.step [_] rfl (List.forall_mem_cons.2 ⟨?_, by simp⟩)
      refine RW.guardT rfl rfl ((by rw [decide_eq_false (by omega)]; rfl)) ?_
      refine RW.call rfl ca12 rfl (fun w' hw' => brief_c w' (hg.ext hw'.ext) b hb (by omega)) ?_
      refine RW.st (fun _ => True) (fun _ h => .inr (by first | trivial | exact h | exact h.ch | exact (h.rem Rem.head).ch | exact ((h.rem Rem.head).rem Rem.head).ch | exact (((h.rem Rem.head).rem Rem.head).rem Rem.head).ch)) (fun _ h => trivial) ?_
      refine QuP.nil ?_
      refine UW.step [_] rfl (List.forall_mem_cons.2 ⟨?_, by simp⟩)
      refine RW.guardT rfl rfl ((by rw [decide_eq_false (by omega)]; rfl)) ?_
      refine RW.call rfl ca13 rfl (fun w' hw' => refBrief_c w' b hb (by omega)) ?_
      refine RW.st (fun _ => True) (fun _ h => .inr ⟨.inr (by first | trivial | exact h | exact h.ch | exact (h.rem Rem.head).ch | exact ((h.rem Rem.head).rem Rem.head).ch | exact (((h.rem Rem.head).rem Rem.head).rem Rem.head).ch), trivial⟩) (fun _ h => trivial) ?_
      refine QuP.cons rfl (fun wq hq => RW.guardT rfl rfl ((by rw [decide_eq_false (by omega)]; rfl)) (RW.eqlS rfl rfl rfl RW.jn)) ?_
      refine QuP.cons rfl (fun wq hq => (RW.pickB rfl rfl (by rw [decide_eq_false (by omega)]; rfl) rfl RW.jn)) ?_
      refine QuP.cons rfl (fun wq hq => (RW.assign rfl rfl RW.jn)) ?_
      refine QuP.nil ?_
      refine UW.nil (EX.seq (CW.ret (EX.seqR ?_)))
      refine EX.fin1 Tryd.results3 rfl (fun wz hw => ?_)
      -- mq: done
      exact ⟨by simp, hw.ext⟩
    · skip
      have h1p := of_decide_eq_false h1
      refine RW.guardT rfl rfl h1 ?_
      refine RW.move rfl rfl ?_
      refine RW.guardT rfl rfl h1 ?_
      refine RW.gtr rfl rfl rfl ?_
      refine RW.pickC rfl rfl h1 rfl ?_
      refine RW.nil (EX.seq ?_)
      -- mq: cond
      first | refine CW.condD rfl (fun h2 => ?_) (fun h2 => ?_) | refine CW.cond rfl (fun h2 => ?_) (fun h2 => ?_)
      · skip
        refine CW.seq ?_
        -- mq: region
        refine CW.drawU [0, 1, 2, 3, 4, 5, 6, 7, 9] 2 [[(8, false, []), (10, false, [11, 12, 13])]] (Ch [blk g2 b.cells 26]) mixed (by kernel_rfl) (fun _ hw => hw.drew) (fun _ h => (by first | trivial | exact h | exact h.ch | exact (h.rem Rem.head).ch | exact ((h.rem Rem.head).rem Rem.head).ch | exact (((h.rem Rem.head).rem Rem.head).rem Rem.head).ch)) ?_
        refine QuP.cons rfl (fun wq hq => (RW.move rfl rfl RW.jn)) ?_
        refine QuP.cons rfl (fun wq hq => (RW.eqlS rfl rfl rfl RW.jn)) ?_
        refine QuP.cons rfl (fun wq hq => (RW.move rfl rfl RW.jn)) ?_
        refine QuP.cons rfl (fun wq hq => RW.guardT rfl rfl ((by rw [phaseW, if_neg (by omega), if_neg (by omega), if_neg (by omega), if_neg (by omega), if_neg (by omega)]; rfl)) (RW.move rfl rfl RW.jn)) ?_
        refine QuP.cons rfl (fun wq hq => RW.guardT rfl rfl ((by rw [phaseW, if_neg (by omega), if_neg (by omega), if_neg (by omega), if_neg (by omega), if_neg (by omega)]; rfl)) (RW.not_ rfl rfl RW.jn)) ?_
        refine QuP.cons rfl (fun wq hq => (RW.pickB rfl rfl (by rw [phaseW, if_neg (by omega), if_neg (by omega), if_neg (by omega), if_neg (by omega), if_neg (by omega)]; rfl) rfl RW.jn)) ?_
        refine QuP.cons rfl (fun wq hq => (RW.move rfl rfl RW.jn)) ?_
        refine QuP.cons rfl (fun wq hq => RW.guardT rfl rfl ((by rw [decide_eq_false (by omega)]; rfl)) (RW.loadA ag26 rfl rfl rfl (fun w1 e1 j u hj => by subst e1; exact hq.blk_at (sz := 17) (by first | exact Has.head | exact Has.tail Has.head | exact Has.tail (Has.tail Has.head) | exact Has.tail (Has.tail (Has.tail Has.head)) | exact Has.tail (Has.tail (Has.tail (Has.tail Has.head))) | exact Has.tail (Has.tail (Has.tail (Has.tail (Has.tail Has.head)))) | exact Has.tail (Has.tail (Has.tail (Has.tail (Has.tail (Has.tail Has.head)))))) rfl j u hj) RW.jn)) ?_
        refine QuP.cons rfl (fun wq hq => RW.guardT rfl rfl ((by rw [decide_eq_false (by omega)]; rfl)) (RW.loadA ag26 rfl rfl rfl (fun w1 e1 j u hj => by subst e1; exact hq.blk_at (sz := 17) (by first | exact Has.head | exact Has.tail Has.head | exact Has.tail (Has.tail Has.head) | exact Has.tail (Has.tail (Has.tail Has.head)) | exact Has.tail (Has.tail (Has.tail (Has.tail Has.head))) | exact Has.tail (Has.tail (Has.tail (Has.tail (Has.tail Has.head)))) | exact Has.tail (Has.tail (Has.tail (Has.tail (Has.tail (Has.tail Has.head)))))) rfl j u hj) RW.jn)) ?_
        refine QuP.nil ?_
        refine UW.step [_] rfl (List.forall_mem_cons.2 ⟨?_, by simp⟩)
        refine RW.guardT rfl rfl ((by rw [decide_eq_false (by omega)]; rfl)) ?_
        refine RW.call rfl ca12 rfl (fun w' hw' => brief_c w' (hg.ext hw'.ext) b hb (by omega)) ?_
        refine RW.st (fun _ => True) (fun _ h => .inr (by first | trivial | exact h | exact h.ch | exact (h.rem Rem.head).ch | exact ((h.rem Rem.head).rem Rem.head).ch | exact (((h.rem Rem.head).rem Rem.head).rem Rem.head).ch)) (fun _ h => trivial) ?_
        refine QuP.nil ?_
        refine UW.step [_] rfl (List.forall_mem_cons.2 ⟨?_, by simp⟩)
        refine RW.guardT rfl rfl ((by rw [decide_eq_false (by omega)]; rfl)) ?_
        refine RW.call rfl ca13 rfl (fun w' hw' => refBrief_c w' b hb (by omega)) ?_
        refine RW.st (fun _ => True) (fun _ h => .inr ⟨.inr (by first | trivial | exact h | exact h.ch | exact (h.rem Rem.head).ch | exact ((h.rem Rem.head).rem Rem.head).ch | exact (((h.rem Rem.head).rem Rem.head).rem Rem.head).ch), trivial⟩) (fun _ h => trivial) ?_
        refine QuP.cons rfl (fun wq hq => RW.guardT rfl rfl ((by rw [decide_eq_false (by omega)]; rfl)) (RW.eqlS rfl rfl rfl RW.jn)) ?_
        refine QuP.cons rfl (fun wq hq => (RW.pickB rfl rfl (by rw [decide_eq_false (by omega)]; rfl) rfl RW.jn)) ?_
        refine QuP.cons rfl (fun wq hq => (RW.assign rfl rfl RW.jn)) ?_
        refine QuP.nil ?_
        refine UW.nil (EX.seq (CW.ret (EX.seqR ?_)))
        refine EX.fin1 Tryd.results3 rfl (fun wz hw => ?_)
        -- mq: done
        exact ⟨by simp, hw.ext⟩
      · skip
        obtain ⟨q, rfl⟩ : ∃ q : Nat, n = q := ⟨n.toNat, by omega⟩
        have hat := phasesL_at (n := q) (by omega)
        refine CW.skip (EX.seq (CW.seq ?_))
        -- mq: region
        refine CW.drawU [0, 1, 2, 4] 4 [[(3, false, [5]), (6, false, [7, 8, 9, 10, 12]), (11, false, []), (13, false, [14, 15, 16])]] (Ch [blk g2 b.cells 26]) mixed (by kernel_rfl) (fun _ hw => hw.drew) (fun _ h => (by first | trivial | exact h | exact h.ch | exact (h.rem Rem.head).ch | exact ((h.rem Rem.head).rem Rem.head).ch | exact (((h.rem Rem.head).rem Rem.head).rem Rem.head).ch)) ?_
        refine QuP.cons rfl (fun wq hq => (RW.move rfl rfl RW.jn)) ?_
        refine QuP.cons rfl (fun wq hq => (RW.move rfl rfl RW.jn)) ?_
        refine QuP.cons rfl (fun wq hq => RW.guardT rfl rfl ((decide_eq_true (by omega))) (RW.move rfl rfl RW.jn)) ?_
        refine QuP.cons rfl (fun wq hq => RW.guardT rfl rfl ((decide_eq_true (by omega))) (RW.move rfl rfl RW.jn)) ?_
        refine QuP.nil ?_
        refine UW.step [_] rfl (List.forall_mem_cons.2 ⟨?_, by simp⟩)
        refine RW.guardT rfl rfl ((decide_eq_true (by omega))) ?_
        -- mq: op 3: ('Op.call', ('Call.mk', ('Callee.value', ('Operand.func', '14')), ('arr',), ('arr',))) -> slot 42 ("law.go:103")
        refine RW.callK rfl ca14 rfl (fun w' _ => phases_c w') (fun w0 w1 A9 n9 c9 hw0 he01 hw1 hlt9 hrd9 => ?_)
        have hn9 : n9 = 5 := hrd9.len.symm
        have hx1 : Ext [] w w1 := hw0.ext.trans0 he01
        have hcv := hw0.cov
        obtain ⟨ad, hA, had, hcell⟩ := hrd9.at_ hat
        refine RW.st (fun _ => True) (fun _ h => .inr (by first | trivial | exact h | exact h.ch | exact (h.rem Rem.head).ch | exact ((h.rem Rem.head).rem Rem.head).ch | exact (((h.rem Rem.head).rem Rem.head).rem Rem.head).ch)) (fun _ h => trivial) ?_
        refine QuP.cons rfl (fun wq hq => RW.guardT rfl rfl ((decide_eq_true (by omega))) (RW.ixAddr (q := q) sl33 rfl rfl rfl (by first | rfl | assumption) (by omega) (by omega) RW.jn)) ?_
        refine QuP.nil ?_
        refine UW.step [_] rfl (List.forall_mem_cons.2 ⟨?_, by simp⟩)
        refine RW.guardT rfl rfl ((decide_eq_true (by omega))) ?_
        -- mq: op 6: ('Op.load', '9', ('Operand.tmp', '44')) -> slot 45 ("law.go:103")
        refine RW.load1 sc9 rfl rfl (fun w' hw' => hw'.base_cell (hcell 0 _ rfl) (fun hk2 => by have := hlt9 _ hk2; have : w0.heap.size ≤ ad.block := had; simp only [block_add] at *; omega)) ?_
        refine RW.st (Ch [blk g2 b.cells 26]) (fun _ h => .inr ⟨.inr (by first | trivial | exact h | exact h.ch | exact (h.rem Rem.head).ch | exact ((h.rem Rem.head).rem Rem.head).ch | exact (((h.rem Rem.head).rem Rem.head).rem Rem.head).ch), trivial⟩) (fun _ h => (by first | trivial | exact h | exact h.ch | exact (h.rem Rem.head).ch | exact ((h.rem Rem.head).rem Rem.head).ch | exact (((h.rem Rem.head).rem Rem.head).rem Rem.head).ch)) ?_
        refine QuP.cons rfl (fun wq hq => RW.guardT rfl rfl ((decide_eq_true (by omega))) (RW.eqlS rfl rfl rfl RW.jn)) ?_
        refine QuP.cons rfl (fun wq hq => (RW.pickB rfl rfl (decide_eq_true (by omega)) rfl RW.jn)) ?_
        refine QuP.cons rfl (fun wq hq => (RW.move rfl rfl RW.jn)) ?_
        refine QuP.cons rfl (fun wq hq => RW.guardT rfl rfl ((decide_eq_true rfl)) (RW.loadA ag26 rfl rfl rfl (fun w1 e1 j u hj => by subst e1; exact hq.blk_at (sz := 17) (by first | exact Has.head | exact Has.tail Has.head | exact Has.tail (Has.tail Has.head) | exact Has.tail (Has.tail (Has.tail Has.head)) | exact Has.tail (Has.tail (Has.tail (Has.tail Has.head))) | exact Has.tail (Has.tail (Has.tail (Has.tail (Has.tail Has.head)))) | exact Has.tail (Has.tail (Has.tail (Has.tail (Has.tail (Has.tail Has.head)))))) rfl j u hj) RW.jn)) ?_
        refine QuP.cons rfl (fun wq hq => RW.guardT rfl rfl ((decide_eq_true rfl)) (RW.loadA ag26 rfl rfl rfl (fun w1 e1 j u hj => by subst e1; exact hq.blk_at (sz := 17) (by first | exact Has.head | exact Has.tail Has.head | exact Has.tail (Has.tail Has.head) | exact Has.tail (Has.tail (Has.tail Has.head)) | exact Has.tail (Has.tail (Has.tail (Has.tail Has.head))) | exact Has.tail (Has.tail (Has.tail (Has.tail (Has.tail Has.head)))) | exact Has.tail (Has.tail (Has.tail (Has.tail (Has.tail (Has.tail Has.head)))))) rfl j u hj) RW.jn)) ?_
        refine QuP.nil ?_
        refine UW.step [_] rfl (List.forall_mem_cons.2 ⟨?_, by simp⟩)
        refine RW.guardT rfl rfl ((decide_eq_true rfl)) ?_
        refine RW.call rfl ca12 rfl (fun w' hw' => brief_c w' (hg.ext (hw'.unbase hx1 hcv).ext) b hb (by omega)) ?_
        refine RW.st (fun _ => True) (fun _ h => .inr ⟨.inr ⟨.inr (by first | trivial | exact h | exact h.ch | exact (h.rem Rem.head).ch | exact ((h.rem Rem.head).rem Rem.head).ch | exact (((h.rem Rem.head).rem Rem.head).rem Rem.head).ch), trivial⟩, (by first | trivial | exact h | exact h.ch | exact (h.rem Rem.head).ch | exact ((h.rem Rem.head).rem Rem.head).ch | exact (((h.rem Rem.head).rem Rem.head).rem Rem.head).ch)⟩) (fun _ h => trivial) ?_
        refine QuP.nil ?_
        refine UW.step [_] rfl (List.forall_mem_cons.2 ⟨?_, by simp⟩)
        refine RW.guardT rfl rfl ((decide_eq_true rfl)) ?_
        refine RW.call rfl ca13 rfl (fun w' hw' => refBrief_c w' b hb (by omega)) ?_
        refine RW.st (fun _ => True) (fun _ h => .inr ⟨.inr ⟨.inr ⟨.inr (by first | trivial | exact h | exact h.ch | exact (h.rem Rem.head).ch | exact ((h.rem Rem.head).rem Rem.head).ch | exact (((h.rem Rem.head).rem Rem.head).rem Rem.head).ch), trivial⟩, (by first | trivial | exact h | exact h.ch | exact (h.rem Rem.head).ch | exact ((h.rem Rem.head).rem Rem.head).ch | exact (((h.rem Rem.head).rem Rem.head).rem Rem.head).ch)⟩, trivial⟩) (fun _ h => trivial) ?_
        refine QuP.cons rfl (fun wq hq => RW.guardT rfl rfl ((decide_eq_true rfl)) (RW.eqlS rfl rfl rfl RW.jn)) ?_
        refine QuP.cons rfl (fun wq hq => (RW.pickB rfl rfl (decide_eq_true rfl) rfl RW.jn)) ?_
        refine QuP.cons rfl (fun wq hq => (RW.assign rfl rfl RW.jn)) ?_
        refine QuP.nil ?_
        refine UW.nil (EX.seq (CW.ret ?_))
        refine EX.fin1 Tryd.results3 rfl (fun wz hw => ?_)
        -- mq: done
        exact ⟨by simp, (hw.unbase hx1 hcv).ext⟩
theorem BlkV.ext' {a b : BlkV} (h : (a.id = b.id ∧ a.ph = b.ph ∧ a.r1 = b.r1 ∧ a.c1 = b.c1 ∧ a.r2 = b.r2 ∧ a.c2 = b.c2 ∧ a.r3 = b.r3 ∧ a.c3 = b.c3 ∧ a.r4 = b.r4) ∧ (a.c4 = b.c4 ∧ a.r5 = b.r5 ∧ a.c5 = b.c5 ∧ a.code = b.code ∧ a.has = b.has ∧ a.cut = b.cut ∧ a.dir = b.dir ∧ a.line = b.line)) : a = b := by
  cases a; cases b; simp_all
instance : DecidableEq BlkV := fun a b =>
  if h : (a.id = b.id ∧ a.ph = b.ph ∧ a.r1 = b.r1 ∧ a.c1 = b.c1 ∧ a.r2 = b.r2 ∧ a.c2 = b.c2 ∧ a.r3 = b.r3 ∧ a.c3 = b.c3 ∧ a.r4 = b.r4) ∧ (a.c4 = b.c4 ∧ a.r5 = b.r5 ∧ a.c5 = b.c5 ∧ a.code = b.code ∧ a.has = b.has ∧ a.cut = b.cut ∧ a.dir = b.dir ∧ a.line = b.line) then isTrue (BlkV.ext' h)
  else isFalse fun e => h (by subst e; exact ⟨⟨rfl, rfl, rfl, rfl, rfl, rfl, rfl, rfl, rfl⟩, rfl, rfl, rfl, rfl, rfl, rfl, rfl, rfl⟩)
theorem heqB (a b : BlkV) : eqv a.cells b.cells = decide (a = b) := by
  rw [Bool.eq_iff_iff]
  simp only [eqv, veq, Bool.and_eq_true, decide_eq_true_eq, Bool.and_true, beq_iff_eq, bs]
  constructor
  · rintro ⟨h1, h2, h3, h4, h5, h6, h7, h8, h9, h10, h11, h12, h13, h14, h15, h16, h17⟩
    exact BlkV.ext' ⟨⟨by omega, h2, h3, h4, h5, h6, h7, h8, h9⟩, h10, h11, h12, h13, h14, h15, by simpa using h16, by simpa using h17⟩
  · rintro rfl; simp
theorem greatD_two {a b : BlkV} (h : greatD [a, b] = false) : (a.dir.length ≤ 400 ∧ a.line.length ≤ 400) ∧ b.dir.length ≤ 400 ∧ b.line.length ≤ 400 := by
  simp [greatD, bigB] at h; omega
theorem apart_c (w : World) (hg : Gl w) (a b : BlkV) (ha : a.Wf) (hb : b.Wf) :
    Calls Tryd.prog 4 [.agg a.cells.toArray, .agg b.cells.toArray].toArray w (fun e w' => e = .returned (.bool true) ∧ Ext [] w w') := by
  refine calls (n := 41) Tryd.func4 rfl Tryd.ntmps4 rfl ?_
  refine CW.sub (H' := SH w [] []) ?_ (Sub.refl _) (fun x hx => SH.start' _ _ hx)
  refine CW.seq (CW.region ?_)
  refine RW.boxA rfl rfl (fun g2 hg2 hf2 => ?_)
  refine RW.boxA rfl rfl (fun g3 hg3 hf3 => ?_)
  refine RW.assign rfl rfl ?_
  refine RW.nil (EX.seq (CW.seq (CW.seq ?_)))
  -- mq: region
  refine CW.region ?_
  refine RW.loadBA ag26 rfl rfl (by first | exact Has.head | exact Has.tail Has.head | exact Has.tail (Has.tail Has.head) | exact Has.tail (Has.tail (Has.tail Has.head)) | exact Has.tail (Has.tail (Has.tail (Has.tail Has.head))) | exact Has.tail (Has.tail (Has.tail (Has.tail (Has.tail Has.head)))) | exact Has.tail (Has.tail (Has.tail (Has.tail (Has.tail (Has.tail Has.head)))))) rfl rfl ?_
  refine RW.loadBA ag26 rfl rfl (by first | exact Has.head | exact Has.tail Has.head | exact Has.tail (Has.tail Has.head) | exact Has.tail (Has.tail (Has.tail Has.head)) | exact Has.tail (Has.tail (Has.tail (Has.tail Has.head))) | exact Has.tail (Has.tail (Has.tail (Has.tail (Has.tail Has.head)))) | exact Has.tail (Has.tail (Has.tail (Has.tail (Has.tail (Has.tail Has.head)))))) rfl rfl ?_
  refine RW.buildSlc (out := EBlk.all [a, b]) sl28 rfl rfl rfl (by kernel_rfl) (fun g11 hg11 hf11 => ?_)
  refine RW.call rfl ca9 rfl (fun w' hw' => great_c w' _ _ _ _ [a, b] (Rd.of_blk (E := EBlk) hw' Has.head rfl (by decide))) ?_
  refine RW.move rfl rfl ?_
  -- mq: guard slot 13
  refine RW.casesB 13 rfl (fun hG => ?_) (fun hG => ?_)
  · skip
    refine RW.guardF rfl rfl rfl hG ?_
    refine RW.guardF rfl rfl rfl hG ?_
    refine RW.pickB rfl rfl hG rfl ?_
    refine RW.nil (EX.seq ?_)
    -- mq: cond
    refine CW.condT rfl (rfl) ?_
    refine CW.seq (CW.region ?_)
    refine RW.call rfl ca10 rfl (fun w' hw' => awake_c w' (hg.ext hw'.ext)) ?_
    refine RW.assign rfl rfl ?_
    refine RW.nil (EX.seq (CW.ret (EX.seqR ?_)))
    refine EX.fin1 Tryd.results4 rfl (fun wz hw => ?_)
    -- mq: done
    exact ⟨rfl, hw.ext⟩
  · skip
    refine RW.guardT rfl rfl hG ?_
    refine RW.call rfl ca10 rfl (fun w' hw' => awake_c w' (hg.ext hw'.ext)) ?_
    refine RW.guardT rfl rfl hG ?_
    refine RW.not_ rfl rfl ?_
    refine RW.pickC rfl rfl hG rfl ?_
    refine RW.nil (EX.seq ?_)
    -- mq: cond
    refine CW.condF rfl (rfl) ?_
    refine CW.skip (EX.seq (CW.seq ?_))
    -- mq: region
    have hla := fun w' (hw' : Gl w') => line_c w' hw' a ha
    have hlb := fun w' (hw' : Gl w') => line_c w' hw' b hb
    by_cases hta : toldB a = true
    · by_cases htb : toldB b = true
      · skip
        rw [lineR, if_pos hta] at hla
        rw [lineR, if_pos htb] at hlb
        refine CW.region ?_
        refine RW.loadBA ag26 rfl rfl (by first | exact Has.head | exact Has.tail Has.head | exact Has.tail (Has.tail Has.head) | exact Has.tail (Has.tail (Has.tail Has.head)) | exact Has.tail (Has.tail (Has.tail (Has.tail Has.head))) | exact Has.tail (Has.tail (Has.tail (Has.tail (Has.tail Has.head)))) | exact Has.tail (Has.tail (Has.tail (Has.tail (Has.tail (Has.tail Has.head)))))) rfl rfl ?_
        refine RW.call rfl ca15 rfl (fun w' hw' => hla w' (hg.ext hw'.ext)) ?_
        refine RW.move rfl rfl ?_
        refine RW.extract rfl rfl rfl ?_
        refine RW.extract rfl rfl rfl ?_
        refine RW.assign rfl rfl ?_
        refine RW.assign rfl rfl ?_
        refine RW.nil (EX.seq (CW.seq ?_))
        -- mq: region
        refine CW.region ?_
        refine RW.loadBA ag26 rfl rfl (by first | exact Has.head | exact Has.tail Has.head | exact Has.tail (Has.tail Has.head) | exact Has.tail (Has.tail (Has.tail Has.head)) | exact Has.tail (Has.tail (Has.tail (Has.tail Has.head))) | exact Has.tail (Has.tail (Has.tail (Has.tail (Has.tail Has.head)))) | exact Has.tail (Has.tail (Has.tail (Has.tail (Has.tail (Has.tail Has.head)))))) rfl rfl ?_
        refine RW.call rfl ca15 rfl (fun w' hw' => hlb w' (hg.ext hw'.ext)) ?_
        refine RW.move rfl rfl ?_
        refine RW.extract rfl rfl rfl ?_
        refine RW.extract rfl rfl rfl ?_
        refine RW.assign rfl rfl ?_
        refine RW.assign rfl rfl ?_
        refine RW.nil (EX.seq (CW.seq (CW.seq (CW.region ?_))))
        refine RW.move rfl rfl ?_
        refine RW.neqI rfl rfl rfl ?_
        refine RW.move rfl rfl ?_
        refine RW.guardT rfl rfl rfl ?_
        refine RW.move rfl rfl ?_
        refine RW.guardT rfl rfl rfl ?_
        refine RW.neqI rfl rfl rfl ?_
        refine RW.pickC rfl rfl rfl rfl ?_
        refine RW.nil (EX.seq ?_)
        -- mq: cond
        refine CW.condF rfl (rfl) ?_
        refine CW.skip (EX.seq (CW.seq (CW.region ?_)))
        refine RW.move rfl rfl ?_
        refine RW.move rfl rfl ?_
        refine RW.eqlS rfl rfl rfl ?_
        refine RW.loadBA ag26 rfl rfl (by first | exact Has.head | exact Has.tail Has.head | exact Has.tail (Has.tail Has.head) | exact Has.tail (Has.tail (Has.tail Has.head)) | exact Has.tail (Has.tail (Has.tail (Has.tail Has.head))) | exact Has.tail (Has.tail (Has.tail (Has.tail (Has.tail Has.head)))) | exact Has.tail (Has.tail (Has.tail (Has.tail (Has.tail (Has.tail Has.head)))))) rfl rfl ?_
        refine RW.loadBA ag26 rfl rfl (by first | exact Has.head | exact Has.tail Has.head | exact Has.tail (Has.tail Has.head) | exact Has.tail (Has.tail (Has.tail Has.head)) | exact Has.tail (Has.tail (Has.tail (Has.tail Has.head))) | exact Has.tail (Has.tail (Has.tail (Has.tail (Has.tail Has.head)))) | exact Has.tail (Has.tail (Has.tail (Has.tail (Has.tail (Has.tail Has.head)))))) rfl rfl ?_
        refine RW.eqlSt eq26 rfl rfl rfl (by kernel_rfl) (heqB a b) ?_
        refine RW.eqlB Tryd.underlying4 rfl rfl rfl ?_
        refine RW.assign rfl rfl ?_
        refine RW.nil (EX.seq (CW.ret ?_))
        refine EX.fin1 Tryd.results4 rfl (fun wz hw => ?_)
        -- mq: done
        refine ⟨?_, hw.ext⟩
        by_cases hab : a = b
        · subst hab; simp
        · rw [decide_eq_false hab, decide_eq_false (fun e => hab (lineF_inj hta htb e))]; rfl
      · skip
        rw [lineR, if_pos hta] at hla
        rw [lineR, if_neg htb] at hlb
        refine CW.region ?_
        refine RW.loadBA ag26 rfl rfl (by first | exact Has.head | exact Has.tail Has.head | exact Has.tail (Has.tail Has.head) | exact Has.tail (Has.tail (Has.tail Has.head)) | exact Has.tail (Has.tail (Has.tail (Has.tail Has.head))) | exact Has.tail (Has.tail (Has.tail (Has.tail (Has.tail Has.head)))) | exact Has.tail (Has.tail (Has.tail (Has.tail (Has.tail (Has.tail Has.head)))))) rfl rfl ?_
        refine RW.call rfl ca15 rfl (fun w' hw' => hla w' (hg.ext hw'.ext)) ?_
        refine RW.move rfl rfl ?_
        refine RW.extract rfl rfl rfl ?_
        refine RW.extract rfl rfl rfl ?_
        refine RW.assign rfl rfl ?_
        refine RW.assign rfl rfl ?_
        refine RW.nil (EX.seq (CW.seq ?_))
        -- mq: region
        refine CW.region ?_
        refine RW.loadBA ag26 rfl rfl (by first | exact Has.head | exact Has.tail Has.head | exact Has.tail (Has.tail Has.head) | exact Has.tail (Has.tail (Has.tail Has.head)) | exact Has.tail (Has.tail (Has.tail (Has.tail Has.head))) | exact Has.tail (Has.tail (Has.tail (Has.tail (Has.tail Has.head)))) | exact Has.tail (Has.tail (Has.tail (Has.tail (Has.tail (Has.tail Has.head)))))) rfl rfl ?_
        refine RW.call rfl ca15 rfl (fun w' hw' => hlb w' (hg.ext hw'.ext)) ?_
        refine RW.move rfl rfl ?_
        refine RW.extract rfl rfl rfl ?_
        refine RW.extract rfl rfl rfl ?_
        refine RW.assign rfl rfl ?_
        refine RW.assign rfl rfl ?_
        refine RW.nil (EX.seq (CW.seq (CW.seq (CW.region ?_))))
        refine RW.move rfl rfl ?_
        refine RW.neqI rfl rfl rfl ?_
        refine RW.move rfl rfl ?_
        refine RW.guardT rfl rfl rfl ?_
        refine RW.move rfl rfl ?_
        refine RW.guardT rfl rfl rfl ?_
        refine RW.neqI rfl rfl rfl ?_
        refine RW.pickC rfl rfl rfl rfl ?_
        refine RW.nil (EX.seq ?_)
        -- mq: cond
        refine CW.condT rfl (rfl) ?_
        refine CW.seq (CW.region ?_)
        refine RW.assign rfl rfl ?_
        refine RW.nil (EX.seq (CW.ret (EX.seqR ?_)))
        refine EX.fin1 Tryd.results4 rfl (fun wz hw => ?_)
        -- mq: done
        exact ⟨rfl, hw.ext⟩
    · skip
      rw [lineR, if_neg hta] at hla
      refine CW.region ?_
      refine RW.loadBA ag26 rfl rfl (by first | exact Has.head | exact Has.tail Has.head | exact Has.tail (Has.tail Has.head) | exact Has.tail (Has.tail (Has.tail Has.head)) | exact Has.tail (Has.tail (Has.tail (Has.tail Has.head))) | exact Has.tail (Has.tail (Has.tail (Has.tail (Has.tail Has.head)))) | exact Has.tail (Has.tail (Has.tail (Has.tail (Has.tail (Has.tail Has.head)))))) rfl rfl ?_
      refine RW.call rfl ca15 rfl (fun w' hw' => hla w' (hg.ext hw'.ext)) ?_
      refine RW.move rfl rfl ?_
      refine RW.extract rfl rfl rfl ?_
      refine RW.extract rfl rfl rfl ?_
      refine RW.assign rfl rfl ?_
      refine RW.assign rfl rfl ?_
      refine RW.nil (EX.seq (CW.seq ?_))
      -- mq: region
      refine CW.region ?_
      refine RW.loadBA ag26 rfl rfl (by first | exact Has.head | exact Has.tail Has.head | exact Has.tail (Has.tail Has.head) | exact Has.tail (Has.tail (Has.tail Has.head)) | exact Has.tail (Has.tail (Has.tail (Has.tail Has.head))) | exact Has.tail (Has.tail (Has.tail (Has.tail (Has.tail Has.head)))) | exact Has.tail (Has.tail (Has.tail (Has.tail (Has.tail (Has.tail Has.head)))))) rfl rfl ?_
      refine RW.call rfl ca15 rfl (fun w' hw' => hlb w' (hg.ext hw'.ext)) ?_
      -- mq: at
      cases htb : toldB b with
      | true =>
        rw [lineR, if_pos htb]
        refine RW.move rfl rfl ?_
        refine RW.extract rfl rfl rfl ?_
        refine RW.extract rfl rfl rfl ?_
        refine RW.assign rfl rfl ?_
        refine RW.assign rfl rfl ?_
        refine RW.nil (EX.seq (CW.seq (CW.seq (CW.region ?_))))
        refine RW.move rfl rfl ?_
        refine RW.neqI rfl rfl rfl ?_
        refine RW.move rfl rfl ?_
        refine RW.guardF rfl rfl rfl rfl ?_
        refine RW.guardF rfl rfl rfl rfl ?_
        refine RW.pickB rfl rfl rfl rfl ?_
        refine RW.nil (EX.seq ?_)
        -- mq: cond
        refine CW.condT rfl (rfl) ?_
        refine CW.seq (CW.region ?_)
        refine RW.assign rfl rfl ?_
        refine RW.nil (EX.seq (CW.ret (EX.seqR ?_)))
        refine EX.fin1 Tryd.results4 rfl (fun wz hw => ?_)
        -- mq: done
        exact ⟨rfl, hw.ext⟩
      | false =>
        rw [lineR, if_neg (by simp [htb])]
        refine RW.move rfl rfl ?_
        refine RW.extract rfl rfl rfl ?_
        refine RW.extract rfl rfl rfl ?_
        refine RW.assign rfl rfl ?_
        refine RW.assign rfl rfl ?_
        refine RW.nil (EX.seq (CW.seq (CW.seq (CW.region ?_))))
        refine RW.move rfl rfl ?_
        refine RW.neqI rfl rfl rfl ?_
        refine RW.move rfl rfl ?_
        refine RW.guardF rfl rfl rfl rfl ?_
        refine RW.guardF rfl rfl rfl rfl ?_
        refine RW.pickB rfl rfl rfl rfl ?_
        refine RW.nil (EX.seq ?_)
        -- mq: cond
        refine CW.condT rfl (rfl) ?_
        refine CW.seq (CW.region ?_)
        refine RW.assign rfl rfl ?_
        refine RW.nil (EX.seq (CW.ret (EX.seqR ?_)))
        refine EX.fin1 Tryd.results4 rfl (fun wz hw => ?_)
        -- mq: done
        exact ⟨rfl, hw.ext⟩
end Go.Proofs.YtnkdabjahmjdoaaDoor.Mq
