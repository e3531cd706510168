/- text: line -/
import Derived.Test.YtjmmikdbhhomiaaTxC
namespace Go.Proofs.Ytjmmikdbhhomiaa.Mq
open Go Go.RowKit Go.Proofs

section
variable {P : Program} {n : Nat} {c : Code} {Q : Post} {l : Fr} {H : World → Prop}
theorem CW.fixH (h : ∀ w1, H w1 → ∃ S cs, SH w1 S cs w1 ∧ CW P n c Q l (SH w1 S cs)) : CW P n c Q l H := fun w hw => by
  obtain ⟨S, cs, h1, h2⟩ := h w hw
  exact h2 w h1
end
/-- blocks that are known whole, none of them the builder or a row of bytes -/
def Bx (b : Nat) (cs : List Chunk) : Prop := ∀ c ∈ cs, ∃ g xs t, c = blk g xs t ∧ g ≠ b ∧ t ≠ 5
theorem Bx.nil (b : Nat) : Bx b [] := fun _ h => by cases h
theorem Bx.cons {b g : Nat} {xs : List Value} {t : TypeId} {cs : List Chunk} (h1 : g ≠ b) (h2 : t ≠ 5) (h : Bx b cs) : Bx b (blk g xs t :: cs) := fun c hc => by
  rcases List.mem_cons.1 hc with rfl | hc
  · exact ⟨g, xs, t, rfl, h1, h2⟩
  · exact h c hc
theorem SH.same {b : Nat} {w1 w' : World} {cs cs' : List Chunk} (h : SH w1 (feet cs) cs' w') (h1 : ∀ c ∈ cs, c.pred w1) (hs : ∀ c ∈ cs, c ∈ cs') (hb : Bx b cs) : Ext [] w1 w' := by
  refine ⟨h.ext.os, h.ext.tape, h.ext.output, h.ext.size, fun k hk _ => ?_⟩
  by_cases hm : k ∈ feet cs
  · obtain ⟨c, hc, hkc⟩ := mem_feet.1 hm
    obtain ⟨g, xs, t, rfl, _, _⟩ := hb c hc
    have e : k = g := by simpa [blk] using hkc
    subst e
    have a1 : (blk k xs t).pred w1 := h1 _ hc
    have a2 : (blk k xs t).pred w' := h.all _ (hs _ hc)
    exact Eq.trans a2 (Eq.symm a1)
  · exact h.ext.block k hk hm
theorem SH.kb {b : Nat} {w' w2 : World} {cs : List Chunk} {S : List Nat} {w0 : World} (h : SH w0 S cs w') (hk : KB b w' w2) (hb : Bx b cs) : SH w2 (feet cs) cs w2 :=
  ⟨Ext.refl _ _, h.nodup, fun c hc => by
    obtain ⟨g, xs, t, rfl, h1, h2⟩ := hb c hc
    exact hk.blk (h.all _ hc) h1 h2, fun _ hk _ => hk⟩
theorem SH.low {wB w1 w' : World} {S : List Nat} {cs : List Chunk} {p : Addr} {v : Value} (h : SH w1 S cs w') (he : Ext [] wB w1) (hS : ∀ k ∈ S, wB.heap.size ≤ k) (hv : wB.cell? p = some v) : w'.cell? p = some v := by
  have hlt := World.block_lt_of_cell? _ _ hv
  exact h.base_cell (by rw [he.cell hlt (by simp)]; exact hv) (fun hm => by have := hS _ hm; omega)
theorem rowT_mono {L : List CellV} {row : Nat} {en : PosV} {a i : Nat} : ∀ j, i ≤ j → (rowT L row en a i).length ≤ (rowT L row en a j).length
  | 0, h => by rw [show i = 0 by omega]; exact Nat.le_refl _
  | j + 1, h => by
    by_cases he : i = j + 1
    · rw [he]; exact Nat.le_refl _
    · have := rowT_mono (L := L) (row := row) (en := en) (a := a) (i := i) j (by omega)
      rw [rowT, List.length_append]
      omega
theorem lineT_mono {rows : List RowL} {fr to en : PosV} {l0 i : Nat} : ∀ j, i ≤ j → (lineT rows fr to en l0 i).length ≤ (lineT rows fr to en l0 j).length
  | 0, h => by rw [show i = 0 by omega]; exact Nat.le_refl _
  | j + 1, h => by
    by_cases he : i = j + 1
    · rw [he]; exact Nat.le_refl _
    · have := lineT_mono (rows := rows) (fr := fr) (to := to) (en := en) (l0 := l0) (i := i) j (by omega)
      rw [lineT, List.length_append]
      omega
/-- a line's text -/
def linT (rows : List RowL) (fr to : PosV) (l0 l1 : Nat) : List UInt8 := lineT rows fr to (endR rows fr to l0 l1) l0 l1 ++ (if (l1 : Int) - 1 < to.row then [10] else [])
theorem caO1 : CaT Try.prog 23 := CaT.of Try.func23 (by kernel_rfl) (by kernel_rfl)
abbrev lnCs (g2 g3 g4 : Nat) (pv : List Value) (en : PosV) (l0 l1 : Nat) : List Chunk := [blk g4 en.enc 44, blk g3 [.int .i64 (l0 : Int), .int .i64 (l1 : Int)] 28, blk g2 pv 81]
def LnH (wB w : World) (b g2 g3 g4 : Nat) (pv : List Value) (en : PosV) (l0 l1 : Nat) (s : List UInt8) (w' : World) : Prop :=
  BlK wB b s w' ∧ KB b w w' ∧ SH w' (feet (lnCs g2 g3 g4 pv en l0 l1)) (lnCs g2 g3 g4 pv en l0 l1) w'
theorem LnH.step {wB w w1 w' : World} {b g2 g3 g4 : Nat} {pv : List Value} {en : PosV} {l0 l1 : Nat} {s : List UInt8} {cs' : List Chunk} (h : LnH wB w b g2 g3 g4 pv en l0 l1 s w1) (hx : Bx b (lnCs g2 g3 g4 pv en l0 l1))
    (h1 : SH w1 (feet (lnCs g2 g3 g4 pv en l0 l1)) cs' w') (h2 : SH w1 (feet (lnCs g2 g3 g4 pv en l0 l1)) (lnCs g2 g3 g4 pv en l0 l1) w') : LnH wB w b g2 g3 g4 pv en l0 l1 s w' := by
  have he := h2.same h.2.2.all (fun _ h => h) hx
  exact ⟨h.1.ext he, h.2.1.trans0 he, h2.rebase⟩
theorem line_c (wB : World) (F : Nat → Prop) (A : Option Addr) (n c : Nat) (rows : List RowL) (hr : RdRows wB F A n c rows) (fr to : PosV) (b : Nat) (s : List UInt8) (l0 l1 : Nat) (hl01 : l0 < l1) (hl1 : l1 ≤ n) (hn : n ≤ 1000000) (hto : 0 ≤ to.col)
    (hmore : ∀ row ∈ rows, ∀ x ∈ row.1, x.more.length ≤ 1000000) (hlen : s.length + (linT rows fr to l0 l1).length ≤ 140737488355328) (w : World) (hbw : BlK wB b s w) :
    Calls Try.prog 40 [.agg (partV A n c fr to b).toArray, .agg [.int .i64 (l0 : Int), .int .i64 (l1 : Int)].toArray].toArray w (fun e w' => ∃ v, e = .returned v ∧ BlK wB b (s ++ linT rows fr to l0 l1) w' ∧ KB b w w') := by
  have hl := hr.len
  have hblt := hbw.lt
  have hwB := hbw.1.size
  refine calls (n := 80) Try.func40 rfl Try.ntmps40 rfl ?_
  refine CW.sub (H' := SH w [] []) ?_ (Sub.refl _) (fun x hx => SH.start' _ _ hx)
  refine CW.seq (CW.region ?_)
  refine RW.boxA rfl rfl (fun g2 hg2 hf2 => ?_)
  refine RW.boxA rfl rfl (fun g3 hg3 hf3 => ?_)
  refine RW.nil (EX.seq (CW.seq ?_))
  -- mq: region
  refine CW.region ?_
  refine RW.loadBA ag81 rfl rfl (by first | exact Has.head | exact Has.tail Has.head | exact Has.tail (Has.tail Has.head) | exact Has.tail (Has.tail (Has.tail Has.head)) | exact Has.tail (Has.tail (Has.tail (Has.tail Has.head))) | exact Has.tail (Has.tail (Has.tail (Has.tail (Has.tail Has.head)))) | exact Has.tail (Has.tail (Has.tail (Has.tail (Has.tail (Has.tail Has.head)))))) rfl rfl ?_
  refine RW.loadBA ag28 rfl rfl (by first | exact Has.head | exact Has.tail Has.head | exact Has.tail (Has.tail Has.head) | exact Has.tail (Has.tail (Has.tail Has.head)) | exact Has.tail (Has.tail (Has.tail (Has.tail Has.head))) | exact Has.tail (Has.tail (Has.tail (Has.tail (Has.tail Has.head)))) | exact Has.tail (Has.tail (Has.tail (Has.tail (Has.tail (Has.tail Has.head)))))) rfl rfl ?_
  -- mq: at
  refine RW.call rfl ca47 rfl (fun w' hw' => last_c w' F A n c rows (hr.ext (hbw.1.trans0 hw'.ext) (by simp)) fr to b l0 l1 hl1 hn hto) ?_
  unfold linT at hlen ⊢
  obtain ⟨en, hen⟩ : ∃ en, en = endR rows fr to l0 l1 := ⟨_, rfl⟩
  rw [← hen] at hlen ⊢
  refine RW.allocA ag44 rfl (fun g4 hg4 hf4 => ?_)
  refine RW.storeA ag44 rfl rfl (by first | exact Upd.head | exact Upd.tail Upd.head | exact Upd.tail (Upd.tail Upd.head) | exact Upd.tail (Upd.tail (Upd.tail Upd.head)) | exact Upd.tail (Upd.tail (Upd.tail (Upd.tail Upd.head))) | exact Upd.tail (Upd.tail (Upd.tail (Upd.tail (Upd.tail Upd.head)))) | exact Upd.tail (Upd.tail (Upd.tail (Upd.tail (Upd.tail (Upd.tail Upd.head)))))) (by first | rfl | exact Enc.len _ _) (by repeat (first | exact Ones.nil | exact Enc.ones _ _ | refine Ones.cons rfl ?_)) (by first | exact Nat.le_of_ble_eq_true rfl | (simp only [Enc.len]; decide)) ?_
  refine RW.nil (EX.seq (CW.seq (CW.seq (CW.region ?_))))
  refine RW.ixArrB (q := 0) Try.underlying28 ar28 rfl rfl rfl (by rfl) (by omega) ?_
  refine RW.loadB1 sc3 rfl rfl (by first | exact Has.head | exact Has.tail Has.head | exact Has.tail (Has.tail Has.head) | exact Has.tail (Has.tail (Has.tail Has.head)) | exact Has.tail (Has.tail (Has.tail (Has.tail Has.head))) | exact Has.tail (Has.tail (Has.tail (Has.tail (Has.tail Has.head)))) | exact Has.tail (Has.tail (Has.tail (Has.tail (Has.tail (Has.tail Has.head)))))) rfl ?_
  refine RW.assign rfl rfl ?_
  refine RW.nil (EX.seq (CW.block ?_))
  -- mq: loop
  have hx : Bx b (lnCs g2 g3 g4 (partV A n c fr to b) en l0 l1) := Bx.cons (by omega) (by decide) (Bx.cons (by omega) (by decide) (Bx.cons (by omega) (by decide) (Bx.nil b)))
  have hS : ∀ k ∈ feet (lnCs g2 g3 g4 (partV A n c fr to b) en l0 l1), wB.heap.size ≤ k := by
    intro k hk
    simp only [feet, blk, List.flatMap_cons, List.flatMap_nil, List.mem_append, List.mem_singleton, List.not_mem_nil, or_false] at hk
    omega
  refine CW.loop (ι := Nat) (fun k => [(5, .int .i64 (k : Int)), (2, .pointer (some ⟨g2, 0, none⟩)), (3, .pointer (some ⟨g3, 0, none⟩)), (4, .pointer (some ⟨g4, 0, none⟩))]) (fun k => LnH wB w b g2 g3 g4 (partV A n c fr to b) en l0 l1 (s ++ lineT rows fr to en l0 k)) (fun k => l0 ≤ k ∧ k ≤ l1) (fun k => l1 - k) ?_ ?_
  · exact fun w' hw' => ⟨l0, ⟨Nat.le_refl _, by omega⟩, (by repeat (first | exact Sub.nil | refine Sub.cons (by rfl) ?_)), by rw [lineT_lo rows fr to en l0 l0 (Nat.le_refl _), List.append_nil]; exact ⟨hbw.ext hw'.ext, KB.of_ext hw'.ext, hw'.rebase⟩⟩
  · rintro k ⟨hk0, hk1⟩
    refine CW.fixH (fun w1 hb1 => ⟨_, _, hb1.2.2, ?_⟩)
    have he1 : Ext [] wB w1 := hb1.1.1
    have hsm : ∀ {w' : World} {cs' : List Chunk}, SH w1 (feet (lnCs g2 g3 g4 (partV A n c fr to b) en l0 l1)) cs' w' → (∀ ch : Chunk, ch ∈ lnCs g2 g3 g4 (partV A n c fr to b) en l0 l1 → ch ∈ cs') → Ext [] w1 w' := fun h h2 => h.same hb1.2.2.all h2 hx
    refine CW.seq (CW.seq (CW.region ?_))
    refine RW.move rfl rfl ?_
    refine RW.ixArrB (q := 1) Try.underlying28 ar28 rfl rfl rfl (by rfl) (by omega) ?_
    refine RW.loadB1 sc3 rfl rfl (by first | exact Has.head | exact Has.tail Has.head | exact Has.tail (Has.tail Has.head) | exact Has.tail (Has.tail (Has.tail Has.head)) | exact Has.tail (Has.tail (Has.tail (Has.tail Has.head))) | exact Has.tail (Has.tail (Has.tail (Has.tail (Has.tail Has.head)))) | exact Has.tail (Has.tail (Has.tail (Has.tail (Has.tail (Has.tail Has.head)))))) rfl ?_
    refine RW.lss rfl rfl rfl ?_
    refine RW.nil (EX.seq ?_)
    -- mq: cond
    first | refine CW.condD rfl (fun hlt => ?_) (fun hlt => ?_) | refine CW.cond rfl (fun hlt => ?_) (fun hlt => ?_)
    · skip
      obtain ⟨row, hrow⟩ : ∃ row, rows[k]? = some row := ⟨rows[k]'(by omega), List.getElem?_eq_getElem _⟩
      obtain ⟨ad, B, m, d, hA, _, hcell, hrd⟩ := hr.at_ hrow
      have hm := hrd.len
      have hmx := rd_max hrd
      simp only [maxLen] at hmx
      have hca : cellsAt rows k = row.1 := by unfold cellsAt; rw [hrow]; rfl
      obtain ⟨hB0, hB1⟩ := inB_bd (k := k) (len := row.1.length) hto
      have hA0 := inA_bd fr k
      have hmk1 := lineT_mono (rows := rows) (fr := fr) (to := to) (en := en) (l0 := l0) (i := k + 1) l1 (by omega)
      rw [lineT, if_neg (by omega), hca, List.length_append] at hmk1
      refine CW.skip (EX.seq (CW.seq (CW.block (CW.seq ?_))))
      -- mq: region
      refine CW.region ?_
      refine RW.loadBA ag81 rfl rfl (by first | exact Has.head | exact Has.tail Has.head | exact Has.tail (Has.tail Has.head) | exact Has.tail (Has.tail (Has.tail Has.head)) | exact Has.tail (Has.tail (Has.tail (Has.tail Has.head))) | exact Has.tail (Has.tail (Has.tail (Has.tail (Has.tail Has.head)))) | exact Has.tail (Has.tail (Has.tail (Has.tail (Has.tail (Has.tail Has.head)))))) rfl rfl ?_
      refine RW.move rfl rfl ?_
      -- mq: at
      refine RW.call rfl ca48 rfl (fun w' hw' => within_c w' F A n c rows (hr.ext (he1.trans0 (hsm hw' (fun _ h => h))) (by simp)) fr to b k row hrow) ?_
      refine RW.move rfl rfl ?_
      refine RW.extract rfl rfl rfl ?_
      refine RW.extract rfl rfl rfl ?_
      refine RW.assign rfl rfl ?_
      refine RW.assign rfl rfl ?_
      refine RW.nil (EX.seq (CW.seq (CW.region ?_)))
      refine RW.move rfl rfl ?_
      refine RW.assign rfl rfl ?_
      refine RW.nil (EX.seq (CW.block ?_))
      -- mq: loop
      refine CW.loop (ι := Nat) (fun x => [(8, .int .i64 (x : Int)), (2, .pointer (some ⟨g2, 0, none⟩)), (3, .pointer (some ⟨g3, 0, none⟩)), (4, .pointer (some ⟨g4, 0, none⟩)), (5, .int .i64 (k : Int)), (7, .int .i64 (inB to k row.1.length))]) (fun x => LnH wB w b g2 g3 g4 (partV A n c fr to b) en l0 l1 (s ++ lineT rows fr to en l0 k ++ rowT row.1 k en (inA fr k).toNat x)) (fun x => (inA fr k).toNat ≤ x ∧ (x ≤ (inB to k row.1.length).toNat ∨ x = (inA fr k).toNat)) (fun x => m - x) ?_ ?_
      · exact fun w' hw' => ⟨(inA fr k).toNat, ⟨Nat.le_refl _, .inr rfl⟩, Sub.cons (by rw [show (((inA fr k).toNat : Nat) : Int) = inA fr k by omega]; rfl) (by repeat (first | exact Sub.nil | refine Sub.cons (by rfl) ?_)), by rw [rowT_lo _ _ _ _ _ (Nat.le_refl _), List.append_nil]; exact hb1.step hx hw' hw'⟩
      · rintro x ⟨hxa, hxb⟩
        refine CW.fixH (fun w2 hb2 => ⟨_, _, hb2.2.2, ?_⟩)
        have he2 : Ext [] wB w2 := hb2.1.1
        refine CW.seq (CW.seq (CW.region ?_))
        refine RW.move rfl rfl ?_
        refine RW.move rfl rfl ?_
        refine RW.lss rfl rfl rfl ?_
        refine RW.nil (EX.seq ?_)
        -- mq: cond
        first | refine CW.condD rfl (fun hxt => ?_) (fun hxt => ?_) | refine CW.cond rfl (fun hxt => ?_) (fun hxt => ?_)
        · skip
          obtain ⟨y, hy⟩ : ∃ y, row.1[x]? = some y := ⟨row.1[x]'(by omega), List.getElem?_eq_getElem _⟩
          obtain ⟨bd, hBd, _, hyc⟩ := hrd.at_ hy
          have hym := hmore row (List.mem_of_getElem? hrow) y (List.mem_of_getElem? hy)
          have hxs : rowT row.1 k en (inA fr k).toNat (x + 1) = rowT row.1 k en (inA fr k).toNat x ++ pieceT k en x y := by rw [rowT, if_neg (by omega), hy]
          have hmr := rowT_mono (L := row.1) (row := k) (en := en) (a := (inA fr k).toNat) (i := x + 1) (inB to k row.1.length).toNat (by omega)
          rw [hxs, List.length_append] at hmr
          refine CW.skip (EX.seq (CW.seq (CW.block (CW.seq (CW.region ?_)))))
          refine RW.move rfl rfl ?_
          refine RW.move rfl rfl ?_
          refine RW.buildS bu44 rfl rfl rfl ?_
          refine RW.allocA ag44 rfl (fun g9 hg9 hf9 => ?_)
          refine RW.storeA ag44 rfl rfl (by first | exact Upd.head | exact Upd.tail Upd.head | exact Upd.tail (Upd.tail Upd.head) | exact Upd.tail (Upd.tail (Upd.tail Upd.head)) | exact Upd.tail (Upd.tail (Upd.tail (Upd.tail Upd.head))) | exact Upd.tail (Upd.tail (Upd.tail (Upd.tail (Upd.tail Upd.head)))) | exact Upd.tail (Upd.tail (Upd.tail (Upd.tail (Upd.tail (Upd.tail Upd.head)))))) (by first | rfl | exact Enc.len _ _) (by repeat (first | exact Ones.nil | exact Enc.ones _ _ | refine Ones.cons rfl ?_)) (by first | exact Nat.le_of_ble_eq_true rfl | (simp only [Enc.len]; decide)) ?_
          refine RW.nil (EX.seq (CW.seq (CW.region ?_)))
          refine RW.fieldB fl81x0 rfl rfl ?_
          refine RW.loadB1 sc22 rfl rfl (by first | exact Has.head | exact Has.tail Has.head | exact Has.tail (Has.tail Has.head) | exact Has.tail (Has.tail (Has.tail Has.head)) | exact Has.tail (Has.tail (Has.tail (Has.tail Has.head))) | exact Has.tail (Has.tail (Has.tail (Has.tail (Has.tail Has.head)))) | exact Has.tail (Has.tail (Has.tail (Has.tail (Has.tail (Has.tail Has.head)))))) rfl ?_
          refine RW.move rfl rfl ?_
          refine RW.ixAddr (q := k) sl22 rfl rfl rfl (by first | rfl | assumption) (by omega) (by omega) ?_
          refine RW.fieldP fl31x0 rfl rfl ?_
          refine RW.load1 sc29 rfl rfl (fun w' hw' => hw'.low he2 hS (hcell 0 _ rfl)) ?_
          refine RW.move rfl rfl ?_
          refine RW.ixAddr (q := x) sl29 rfl rfl rfl (by first | rfl | assumption) (by omega) (by omega) ?_
          refine RW.loadA ag37 rfl rfl (rfl) (fun w' hw' j u hj => hw'.low he2 hS (hyc j u hj)) ?_
          refine RW.allocA ag37 rfl (fun g10 hg10 hf10 => ?_)
          refine RW.storeA ag37 rfl rfl (by first | exact Upd.head | exact Upd.tail Upd.head | exact Upd.tail (Upd.tail Upd.head) | exact Upd.tail (Upd.tail (Upd.tail Upd.head)) | exact Upd.tail (Upd.tail (Upd.tail (Upd.tail Upd.head))) | exact Upd.tail (Upd.tail (Upd.tail (Upd.tail (Upd.tail Upd.head)))) | exact Upd.tail (Upd.tail (Upd.tail (Upd.tail (Upd.tail (Upd.tail Upd.head)))))) (by first | rfl | exact Enc.len _ _) (by repeat (first | exact Ones.nil | exact Enc.ones _ _ | refine Ones.cons rfl ?_)) (by first | exact Nat.le_of_ble_eq_true rfl | (simp only [Enc.len]; decide)) ?_
          refine RW.nil (EX.seq (CW.seq (CW.region ?_)))
          refine RW.fieldB fl37x2 rfl rfl ?_
          refine RW.loadB1 sc3 rfl rfl (by first | exact Has.head | exact Has.tail Has.head | exact Has.tail (Has.tail Has.head) | exact Has.tail (Has.tail (Has.tail Has.head)) | exact Has.tail (Has.tail (Has.tail (Has.tail Has.head))) | exact Has.tail (Has.tail (Has.tail (Has.tail (Has.tail Has.head)))) | exact Has.tail (Has.tail (Has.tail (Has.tail (Has.tail (Has.tail Has.head)))))) rfl ?_
          refine RW.neqI rfl rfl rfl ?_
          refine RW.move rfl rfl ?_
          -- mq: guard slot 50
          refine RW.casesB 50 rfl (fun h3 => ?_) (fun h3 => ?_)
          · skip
            refine RW.guardT rfl rfl h3 ?_
            refine RW.loadBA ag44 rfl rfl (by first | exact Has.head | exact Has.tail Has.head | exact Has.tail (Has.tail Has.head) | exact Has.tail (Has.tail (Has.tail Has.head)) | exact Has.tail (Has.tail (Has.tail (Has.tail Has.head))) | exact Has.tail (Has.tail (Has.tail (Has.tail (Has.tail Has.head)))) | exact Has.tail (Has.tail (Has.tail (Has.tail (Has.tail (Has.tail Has.head)))))) rfl rfl ?_
            refine RW.guardT rfl rfl h3 ?_
            refine RW.loadBA ag44 rfl rfl (by first | exact Has.head | exact Has.tail Has.head | exact Has.tail (Has.tail Has.head) | exact Has.tail (Has.tail (Has.tail Has.head)) | exact Has.tail (Has.tail (Has.tail (Has.tail Has.head))) | exact Has.tail (Has.tail (Has.tail (Has.tail (Has.tail Has.head)))) | exact Has.tail (Has.tail (Has.tail (Has.tail (Has.tail (Has.tail Has.head)))))) rfl rfl ?_
            refine RW.guardT rfl rfl h3 ?_
            refine RW.call rfl ca39 rfl (fun w' _ => Less_c w' ⟨(k : Int), (x : Int)⟩ en) ?_
            refine RW.pickB rfl rfl h3 rfl ?_
            refine RW.nil (EX.seq ?_)
            -- mq: cond
            first | refine CW.condD rfl (fun h4 => ?_) (fun h4 => ?_) | refine CW.cond rfl (fun h4 => ?_) (fun h4 => ?_)
            · skip
              have hpc : pieceT k en x y = cellT y := by unfold pieceT; rw [if_pos ⟨of_decide_eq_true h3, decide_eq_true h4⟩]
              rw [hpc] at hmr hxs
              refine CW.drawU [0, 1, 2, 4] 2 [[(3, false, []), (5, true, [])]] (SH w2 (feet (lnCs g2 g3 g4 (partV A n c fr to b) en l0 l1)) (blk g10 y.enc 37 :: blk g9 [.int .i64 (k : Int), .int .i64 (x : Int)] 44 :: lnCs g2 g3 g4 (partV A n c fr to b) en l0 l1)) mixed (by kernel_rfl) (fun _ hw => hw.drew) (fun _ h => (by first | trivial | exact h | exact h.ch | exact (h.rem Rem.head).ch | exact ((h.rem Rem.head).rem Rem.head).ch | exact (((h.rem Rem.head).rem Rem.head).rem Rem.head).ch)) ?_
              refine QuP.cons rfl (fun wq hq => (RW.fieldB fl81x3 rfl rfl RW.jn)) ?_
              refine QuP.cons rfl (fun wq hq => (RW.load1 sc67 rfl rfl (fun w1 e1 => by subst e1; exact hq.blk_cell (by first | exact Has.head | exact Has.tail Has.head | exact Has.tail (Has.tail Has.head) | exact Has.tail (Has.tail (Has.tail Has.head)) | exact Has.tail (Has.tail (Has.tail (Has.tail Has.head))) | exact Has.tail (Has.tail (Has.tail (Has.tail (Has.tail Has.head)))) | exact Has.tail (Has.tail (Has.tail (Has.tail (Has.tail (Has.tail Has.head)))))) rfl) RW.jn)) ?_
              refine QuP.cons rfl (fun wq hq => (RW.loadA ag37 rfl rfl rfl (fun w1 e1 j u hj => by subst e1; exact hq.blk_at (sz := 8) (by first | exact Has.head | exact Has.tail Has.head | exact Has.tail (Has.tail Has.head) | exact Has.tail (Has.tail (Has.tail Has.head)) | exact Has.tail (Has.tail (Has.tail (Has.tail Has.head))) | exact Has.tail (Has.tail (Has.tail (Has.tail (Has.tail Has.head)))) | exact Has.tail (Has.tail (Has.tail (Has.tail (Has.tail (Has.tail Has.head)))))) rfl j u hj) RW.jn)) ?_
              refine QuP.cons rfl (fun wq hq => (RW.loadA ag44 rfl rfl rfl (fun w1 e1 j u hj => by subst e1; exact hq.blk_at (sz := 2) (by first | exact Has.head | exact Has.tail Has.head | exact Has.tail (Has.tail Has.head) | exact Has.tail (Has.tail (Has.tail Has.head)) | exact Has.tail (Has.tail (Has.tail (Has.tail Has.head))) | exact Has.tail (Has.tail (Has.tail (Has.tail (Has.tail Has.head)))) | exact Has.tail (Has.tail (Has.tail (Has.tail (Has.tail (Has.tail Has.head)))))) rfl j u hj) RW.jn)) ?_
              refine QuP.nil ?_
              refine UW.step [_] rfl (List.forall_mem_cons.2 ⟨?_, by simp⟩)
              refine RW.call rfl ca49 rfl (fun w' _ => cell_c w' y hym) ?_
              refine RW.st (fun _ => True) (fun _ h => .inr (by first | trivial | exact h | exact h.ch | exact (h.rem Rem.head).ch | exact ((h.rem Rem.head).rem Rem.head).ch | exact (((h.rem Rem.head).rem Rem.head).rem Rem.head).ch)) (fun _ h => trivial) ?_
              refine QuP.nil ?_
              refine UW.step [_] rfl (List.forall_mem_cons.2 ⟨?_, by simp⟩)
              refine RW.callW (first := []) (cap := [.pointer (some ⟨b, 0, none⟩)]) (fun w6 _ w7 => BlK wB b (s ++ lineT rows fr to en l0 k ++ rowT row.1 k en (inA fr k).toNat x ++ cellT y) w7 ∧ KB b w6 w7) rfl rfl caO1 rfl (fun w' hw' => of1_c wB b _ (cellT y) ⟨(k : Int), (x : Int)⟩ w' (hb2.1.ext (hw'.same hb2.2.2.all (fun _ h => List.mem_cons_of_mem _ (List.mem_cons_of_mem _ h)) hx)) (by simp only [List.length_append] at hlen ⊢; omega)) (fun w6 v w7 hw6 ⟨hb7, hk7⟩ => ?_)
              refine RW.st (fun _ => True) (fun _ _ => .inl rfl) (fun _ h => trivial) ?_
              refine QuP.nil ?_
              refine UW.nil (EX.bkN (EX.seq (CW.region ?_)))
              refine RW.move rfl rfl ?_
              refine RW.add rfl rfl rfl (wrap64 (by omega) (by omega)) ?_
              refine RW.assign rfl rfl ?_
              refine RW.nil ?_
              -- mq: loopend
              refine EX.lpN (x + 1) ⟨by omega, .inl (by omega)⟩ (by omega) (by repeat (first | exact Sub.nil | refine Sub.cons (by rfl) ?_)) (fun w' hw' => ?_)
              subst hw'
              rw [hxs, ← List.append_assoc]
              exact ⟨hb7, (hb2.2.1.trans0 (hw6.same hb2.2.2.all (fun _ h => List.mem_cons_of_mem _ (List.mem_cons_of_mem _ h)) hx)).trans hk7, ((hw6.rem Rem.head).rem Rem.head).kb hk7 hx⟩
            · skip
              have hpc : pieceT k en x y = [] := by unfold pieceT; rw [if_neg (fun e => h4 (of_decide_eq_true e.2))]
              rw [hpc, List.append_nil] at hxs
              refine CW.skip (EX.bkN (EX.seq (CW.region ?_)))
              refine RW.move rfl rfl ?_
              refine RW.add rfl rfl rfl (wrap64 (by omega) (by omega)) ?_
              refine RW.assign rfl rfl ?_
              refine RW.nil ?_
              -- mq: loopend
              refine EX.lpN (x + 1) ⟨by omega, .inl (by omega)⟩ (by omega) (by repeat (first | exact Sub.nil | refine Sub.cons (by rfl) ?_)) (fun w' hw' => ?_)
              rw [hxs]
              exact hb2.step hx hw' ((hw'.rem Rem.head).rem Rem.head)
          · skip
            refine RW.guardF rfl rfl rfl h3 ?_
            refine RW.guardF rfl rfl rfl h3 ?_
            refine RW.guardF rfl rfl rfl h3 ?_
            refine RW.pickC rfl rfl h3 rfl ?_
            refine RW.nil (EX.seq ?_)
            -- mq: cond
            refine CW.condF rfl (rfl) ?_
            refine CW.skip (EX.bkN (EX.seq (CW.region ?_)))
            refine RW.move rfl rfl ?_
            refine RW.add rfl rfl rfl (wrap64 (by omega) (by omega)) ?_
            refine RW.assign rfl rfl ?_
            refine RW.nil ?_
            -- mq: loopend
            have hpc : pieceT k en x y = [] := by unfold pieceT; rw [if_neg (fun e => (of_decide_eq_false h3) e.1)]
            rw [hpc, List.append_nil] at hxs
            refine EX.lpN (x + 1) ⟨by omega, .inl (by omega)⟩ (by omega) (by repeat (first | exact Sub.nil | refine Sub.cons (by rfl) ?_)) (fun w' hw' => ?_)
            rw [hxs]
            exact hb2.step hx hw' ((hw'.rem Rem.head).rem Rem.head)
        · skip
          refine CW.exit (EX.seqE (EX.lpE (EX.bkE (EX.bkN (EX.seq (CW.region ?_))))))
          refine RW.move rfl rfl ?_
          refine RW.add rfl rfl rfl (wrap64 (by omega) (by omega)) ?_
          refine RW.assign rfl rfl ?_
          refine RW.nil ?_
          -- mq: loopend
          refine EX.lpN (k + 1) ⟨by omega, by omega⟩ (by omega) (by repeat (first | exact Sub.nil | refine Sub.cons (by rfl) ?_)) (fun w' hw' => ?_)
          have hxe : rowT row.1 k en (inA fr k).toNat x = rowT row.1 k en (inA fr k).toNat (inB to k row.1.length).toNat := by
            rcases hxb with h | h
            · rw [show x = (inB to k row.1.length).toNat by omega]
            · rw [h, rowT_lo _ _ _ _ _ (Nat.le_refl _), rowT_lo _ _ _ _ _ (by omega)]
          rw [lineT, if_neg (by omega), hca, ← List.append_assoc, ← hxe]
          exact hb2.step hx hw' hw'
    · skip
      have hkl : k = l1 := by omega
      rw [hkl] at hb1
      obtain ⟨row, hrow⟩ : ∃ row, rows[l1 - 1]? = some row := ⟨rows[l1 - 1]'(by omega), List.getElem?_eq_getElem _⟩
      obtain ⟨ad, B, m, d, hA, _, hcell, hrd⟩ := hr.at_ hrow
      refine CW.exit (EX.seqE (EX.lpE (EX.bkE (EX.seq (CW.seq (CW.region ?_))))))
      refine RW.ixArrB (q := 1) Try.underlying28 ar28 rfl rfl rfl (by rfl) (by omega) ?_
      refine RW.loadB1 sc3 rfl rfl (by first | exact Has.head | exact Has.tail Has.head | exact Has.tail (Has.tail Has.head) | exact Has.tail (Has.tail (Has.tail Has.head)) | exact Has.tail (Has.tail (Has.tail (Has.tail Has.head))) | exact Has.tail (Has.tail (Has.tail (Has.tail (Has.tail Has.head)))) | exact Has.tail (Has.tail (Has.tail (Has.tail (Has.tail (Has.tail Has.head)))))) rfl ?_
      refine RW.sub_ rfl rfl rfl (wrap64 (by omega) (by omega)) ?_
      refine RW.assign rfl rfl ?_
      refine RW.nil (EX.seq (CW.seq (CW.region ?_)))
      refine RW.move rfl rfl ?_
      refine RW.fieldB fl81x2 rfl rfl ?_
      refine RW.fieldB fl44x0 rfl rfl ?_
      refine RW.loadB1 sc3 rfl rfl (by first | exact Has.head | exact Has.tail Has.head | exact Has.tail (Has.tail Has.head) | exact Has.tail (Has.tail (Has.tail Has.head)) | exact Has.tail (Has.tail (Has.tail (Has.tail Has.head))) | exact Has.tail (Has.tail (Has.tail (Has.tail (Has.tail Has.head)))) | exact Has.tail (Has.tail (Has.tail (Has.tail (Has.tail (Has.tail Has.head)))))) rfl ?_
      refine RW.lss rfl rfl rfl ?_
      refine RW.nil (EX.seq ?_)
      -- mq: cond
      first | refine CW.condD rfl (fun h5 => ?_) (fun h5 => ?_) | refine CW.cond rfl (fun h5 => ?_) (fun h5 => ?_)
      · skip
        rw [if_pos h5] at hlen ⊢
        refine CW.drawU [0, 1, 2, 3, 4, 5, 6, 7] 2 [[(8, false, [9]), (10, true, [])]] (SH w1 (feet (lnCs g2 g3 g4 (partV A n c fr to b) en l0 l1)) (lnCs g2 g3 g4 (partV A n c fr to b) en l0 l1)) mixed (by kernel_rfl) (fun _ hw => hw.drew) (fun _ h => (by first | trivial | exact h | exact h.ch | exact (h.rem Rem.head).ch | exact ((h.rem Rem.head).rem Rem.head).ch | exact (((h.rem Rem.head).rem Rem.head).rem Rem.head).ch)) ?_
        refine QuP.cons rfl (fun wq hq => (RW.fieldB fl81x3 rfl rfl RW.jn)) ?_
        refine QuP.cons rfl (fun wq hq => (RW.load1 sc67 rfl rfl (fun w1 e1 => by subst e1; exact hq.blk_cell (by first | exact Has.head | exact Has.tail Has.head | exact Has.tail (Has.tail Has.head) | exact Has.tail (Has.tail (Has.tail Has.head)) | exact Has.tail (Has.tail (Has.tail (Has.tail Has.head))) | exact Has.tail (Has.tail (Has.tail (Has.tail (Has.tail Has.head)))) | exact Has.tail (Has.tail (Has.tail (Has.tail (Has.tail (Has.tail Has.head)))))) rfl) RW.jn)) ?_
        refine QuP.cons rfl (fun wq hq => (RW.move rfl rfl RW.jn)) ?_
        refine QuP.cons rfl (fun wq hq => (RW.fieldB fl81x0 rfl rfl RW.jn)) ?_
        refine QuP.cons rfl (fun wq hq => (RW.load1 sc22 rfl rfl (fun w1 e1 => by subst e1; exact hq.blk_cell (by first | exact Has.head | exact Has.tail Has.head | exact Has.tail (Has.tail Has.head) | exact Has.tail (Has.tail (Has.tail Has.head)) | exact Has.tail (Has.tail (Has.tail (Has.tail Has.head))) | exact Has.tail (Has.tail (Has.tail (Has.tail (Has.tail Has.head)))) | exact Has.tail (Has.tail (Has.tail (Has.tail (Has.tail (Has.tail Has.head)))))) rfl) RW.jn)) ?_
        refine QuP.cons rfl (fun wq hq => (RW.move rfl rfl RW.jn)) ?_
        refine QuP.cons rfl (fun wq hq => (RW.ixAddr (q := (l1 - 1)) sl22 rfl rfl rfl (by first | rfl | assumption) (by omega) (by omega) RW.jn)) ?_
        refine QuP.cons rfl (fun wq hq => (RW.loadA ag31 rfl rfl (rfl) (fun w1 e1 j u hj => by subst e1; exact (hq.low he1 hS (hcell j u hj))) RW.jn)) ?_
        refine QuP.nil ?_
        refine UW.step [_] rfl (List.forall_mem_cons.2 ⟨?_, by simp⟩)
        refine RW.call rfl ca50 rfl (fun w' hw' => sizeT_c w' F B m d row.1 row.2 (hrd.ext (he1.trans0 (hsm hw' (fun _ h => h))) (by simp))) ?_
        refine RW.st (fun _ => True) (fun _ h => .inr (by first | trivial | exact h | exact h.ch | exact (h.rem Rem.head).ch | exact ((h.rem Rem.head).rem Rem.head).ch | exact (((h.rem Rem.head).rem Rem.head).rem Rem.head).ch)) (fun _ h => trivial) ?_
        refine QuP.cons rfl (fun wq hq => (RW.buildS bu44 rfl rfl rfl RW.jn)) ?_
        refine QuP.nil ?_
        refine UW.step [_] rfl (List.forall_mem_cons.2 ⟨?_, by simp⟩)
        refine RW.callW (first := []) (cap := [.pointer (some ⟨b, 0, none⟩)]) (fun w6 _ w7 => BlK wB b (s ++ lineT rows fr to en l0 l1 ++ [10]) w7 ∧ KB b w6 w7) rfl rfl caO1 rfl (fun w' hw' => of1_c wB b _ [10] ⟨(l1 : Int) - 1, (sizeF row.1 m : Int)⟩ w' (hb1.1.ext (hsm hw' (fun _ h => h))) (by simp only [List.length_append] at hlen ⊢; omega)) (fun w6 v w7 hw6 ⟨hb7, hk7⟩ => ?_)
        refine RW.st (fun _ => True) (fun _ _ => .inl rfl) (fun _ h => trivial) ?_
        refine QuP.nil ?_
        refine UW.nil ?_
        refine EX.fin0N Try.results40 (fun wz hw => ?_)
        -- mq: done
        rw [List.append_assoc] at hb7
        exact ⟨_, rfl, by subst hw; exact hb7, by subst hw; exact (hb1.2.1.trans0 (hsm hw6 (fun _ h => h))).trans hk7⟩
      · skip
        rw [if_neg h5, List.append_nil] at hlen ⊢
        refine CW.skip ?_
        refine EX.fin0N Try.results40 (fun wz hw => ?_)
        -- mq: done
        exact ⟨_, rfl, hb1.1.ext (hsm hw (fun _ h => h)), hb1.2.1.trans0 (hsm hw (fun _ h => h))⟩
end Go.Proofs.Ytjmmikdbhhomiaa.Mq
