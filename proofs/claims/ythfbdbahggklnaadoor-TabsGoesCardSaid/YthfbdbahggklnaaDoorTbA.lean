/- tabs: walks of TabsGoes, TabsPlays -/
import Derived.Test.YthfbdbahggklnaaDoorTb9
namespace Go.Proofs.YthfbdbahggklnaaDoor.Mq
open Go Go.RowKit Go.Proofs

def setsZ (n : Nat) (l : List Nat) : List Bool := l.foldl (fun b (v : Nat) => withB b (v : Int) true) (List.replicate n false)
theorem setsZ_snoc {n : Nat} {l : List Nat} {k v : Nat} (h : l[k]? = some v) : setsZ n (l.take (k + 1)) = withB (setsZ n (l.take k)) (v : Int) true := by
  rw [List.take_add_one, h, Option.toList_some, setsZ, List.foldl_append]
  rfl
theorem setsZ_len (n : Nat) (l : List Nat) : (setsZ n l).length = n := by
  unfold setsZ
  have key : ∀ (l : List Nat) (b : List Bool), (l.foldl (fun b (v : Nat) => withB b (v : Int) true) b).length = b.length := by
    intro l
    induction l with
    | nil => intro b; rfl
    | cons v l ih => intro b; rw [List.foldl_cons, ih, withB_len]
  rw [key, List.length_replicate]
theorem EB_zeros : ∀ m : Nat, zeros [Value.bool false] m = EB.all (List.replicate m false)
  | 0 => rfl
  | m + 1 => by rw [List.replicate_succ]; show _ = EB.enc false ++ EB.all _; rw [← EB_zeros m]; rfl
/-- stops, and what the document says of them -/
structure OkS (w0 : World) (g : Nat) (bs : List Bool) (x : Chunk) (s : World × Option Addr × Nat × SI) : Prop where
  ext : Ext [] w0 s.1
  ok : Okk bs s.2.2.2
  rd : Rd EB s.1 (fun k => k ∉ feet [stp g bs.length s.2.2.2, x]) s.2.1 bs.length s.2.2.1 bs
  fresh : ∀ k ∈ feet [stp g bs.length s.2.2.2, x], w0.heap.size ≤ k
abbrev HS (g : Nat) (bs : List Bool) (x : Chunk) (s : World × Option Addr × Nat × SI) : World → Prop := SH s.1 (feet [stp g bs.length s.2.2.2, x]) [stp g bs.length s.2.2.2, x]
theorem OkS.next {w0 w1 w3 w4 : World} {g : Nat} {bs : List Bool} {x : Chunk} {A A4 : Option Addr} {c c4 n4 : Nat} {i j : SI} {b2 : List Bool} (h : OkS w0 g bs x (w1, A, c, i)) (hw3 : SH w1 (feet [stp g bs.length i, x]) [stp g b2.length j, x] w3) (he : Ext [] w3 w4) (hj : Okk b2 j)
    (hlt : ∀ k ∈ feet [stp g b2.length j, x], k < w3.heap.size) (hr : Rd EB w4 (fun k => w3.heap.size ≤ k) A4 n4 c4 b2) : OkS w0 g b2 x (w4, A4, c4, j) := by
  have hn := hr.len
  subst hn
  refine ⟨(h.ext.trans hw3.ext (fun k hk hlt => by have := h.fresh k hk; omega)).trans0 he, hj, hr.weak (fun k hk hm => by have := hlt k hm; omega), fun k hk => ?_⟩
  rcases Nat.lt_or_ge k w1.heap.size with h1 | h1
  · exact h.fresh k (hw3.cov k hk h1)
  · exact Nat.le_trans h.ext.size h1
theorem lawGoes_c (w : World) (hg : Gt w) (cols : Nat) (hcols : cols < 65536) (F : Nat → Prop) (A : Option Addr) (m c : Nat) (l : List Nat) (hr : Rd EU16 w F A m c l) (hm : m ≤ 140737488351232) (hl16 : ∀ v ∈ l, v < 65536) (x k : Int) :
    Calls Tryd.prog 6 [.int .u16 (cols : Int), .slice A m c, .agg [Value.int .i64 x, .int .i64 k].toArray].toArray w (fun e w' => e = .returned (.bool true) ∧ Ext [] w w') := by
  have hlen := hr.len
  have hrs := hr.strong (by decide)
  refine calls (n := 87) Tryd.func6 rfl Tryd.ntmps6 rfl ?_
  refine CW.sub (H' := SH w [] []) ?_ (Sub.refl _) (fun x hx => SH.start' _ _ hx)
  refine CW.seq (CW.region ?_)
  refine RW.boxA rfl rfl (fun g5 hg5 hf5 => ?_)
  refine RW.assign rfl rfl ?_
  refine RW.nil (EX.seq (CW.seq (CW.seq (CW.region ?_))))
  refine RW.move rfl rfl ?_
  refine RW.lenSl Tryd.underlying23 rfl rfl ?_
  refine RW.gtr rfl rfl rfl ?_
  refine RW.move rfl rfl ?_
  -- mq: guard slot 15
  refine RW.casesB 15 rfl (fun h1 => ?_) (fun h1 => ?_)
  · skip
    have h1p := of_decide_eq_true h1
    refine RW.guardF rfl rfl rfl h1 ?_
    refine RW.guardF rfl rfl rfl h1 ?_
    refine RW.pickB rfl rfl h1 rfl ?_
    refine RW.nil (EX.seq ?_)
    -- mq: cond
    refine CW.condT rfl (rfl) ?_
    refine CW.seq (CW.region ?_)
    refine RW.call rfl ca8 rfl (fun w' hw' => awake_c w' (hg.ext hw'.ext)) ?_
    refine RW.assign rfl rfl ?_
    refine RW.nil (EX.seq (CW.ret (EX.seqR ?_)))
    refine EX.fin1 Tryd.results6 rfl (fun wz hw => ?_)
    -- mq: done
    exact ⟨rfl, hw.ext⟩
  · skip
    have h1p := of_decide_eq_false h1
    refine RW.guardT rfl rfl h1 ?_
    refine RW.call rfl ca8 rfl (fun w' hw' => awake_c w' (hg.ext hw'.ext)) ?_
    refine RW.guardT rfl rfl h1 ?_
    refine RW.not_ rfl rfl ?_
    refine RW.pickC rfl rfl h1 rfl ?_
    refine RW.nil (EX.seq ?_)
    -- mq: cond
    refine CW.condF rfl (rfl) ?_
    refine CW.skip (EX.seq (CW.seq (CW.region ?_)))
    refine RW.move rfl rfl ?_
    refine RW.remN rfl rfl rfl (by omega) (by omega) ?_
    refine RW.convI rfl rfl Tryd.underlying22 Tryd.underlying3 (wrap64 (by omega) (by omega)) ?_
    refine RW.add rfl rfl rfl (wrap64 (by omega) (by omega)) ?_
    refine RW.assign rfl rfl ?_
    refine RW.nil (EX.seq (CW.seq ?_))
    -- mq: region
    rw [colsF_eq]
    obtain ⟨n, hn⟩ : ∃ n, colsF cols = n := ⟨_, rfl⟩
    have hnr := colsF_range cols
    rw [hn] at hnr ⊢
    refine CW.region ?_
    refine RW.move rfl rfl ?_
    -- mq: at
    refine RW.callNew rfl ca9 rfl (fun w' _ => new_c w' n hnr) (fun s hs => ?_)
    obtain ⟨g, i⟩ := s
    dsimp only at hs ⊢
    refine RW.move rfl rfl ?_
    refine RW.extract rfl rfl rfl ?_
    refine RW.extract rfl rfl rfl ?_
    refine RW.assign rfl rfl ?_
    refine RW.assign rfl rfl ?_
    refine RW.nil (EX.seq (CW.seq (CW.seq (CW.region ?_))))
    refine RW.move rfl rfl ?_
    refine RW.neqI rfl rfl rfl ?_
    refine RW.move rfl rfl ?_
    refine RW.guardT rfl rfl rfl ?_
    refine RW.move rfl rfl ?_
    refine RW.guardT rfl rfl rfl ?_
    refine RW.eqlP Tryd.underlying25 rfl rfl rfl ?_
    refine RW.pickC rfl rfl rfl rfl ?_
    refine RW.nil (EX.seq ?_)
    -- mq: cond
    refine CW.condF rfl (rfl) ?_
    have hl0 : (sizeB [] n).length = n := sizeB_len _ _
    refine CW.skip (EX.seq (CW.seq ?_))
    -- mq: region
    refine CW.region ?_
    refine RW.move rfl rfl ?_
    refine RW.callUI (fun j => [stp g n j, blk g5 [.int .i64 x, .int .i64 k] 47]) rfl ca16 rfl (fun _ => Upd.head) (fun w' hw' => none_n hs hl0 (hw'.has Has.head) (by have := hw'.nodup; simp only [feet_cons, List.nodup_append] at this; exact this.1) (by omega)) (fun j hj => ?_)
    refine RW.nil (EX.seq (CW.seq ?_))
    -- mq: region
    refine CW.region ?_
    refine RW.move rfl rfl ?_
    refine RW.make n sl35 rfl rfl rfl rfl (by simp only [maxLen]; omega) (by omega) (fun g38 hgl hgf => ?_)
    -- mq: at
    rw [EB_zeros]
    refine RW.assign rfl rfl ?_
    refine RW.nil (EX.seq (CW.seq (CW.seq (CW.region ?_))))
    refine RW.assign rfl rfl ?_
    refine RW.nil (EX.seq (CW.block ?_))
    -- mq: loop
    refine CW.loop (ι := (World × Option Addr × Nat × SI) × Nat) (fun s => [(1, .slice A m c), (5, ptr g5), (8, ptr g), (10, .slice s.1.2.1 n s.1.2.2.1), (11, .int .i64 (s.2 : Int))]) (fun s => HS g (setsZ n (l.take s.2)) (blk g5 [.int .i64 x, .int .i64 k] 47) s.1)
      (fun s => s.2 ≤ m ∧ OkS w g (setsZ n (l.take s.2)) (blk g5 [.int .i64 x, .int .i64 k] 47) s.1) (fun s => m - s.2) ?_ ?_
    · intro w1 hw1
      have hz : (List.replicate n false).length = n := by simp
      have hown := hw1.has Has.head
      have hnd := hw1.nodup
      have hr0 : Rd EB w1 (fun k => (Value.slice (some ⟨g38, 0, none⟩) n n).ownBlock = some k) (some ⟨g38, 0, none⟩) n n (List.replicate n false) := by
        obtain ⟨A', c', he, hr'⟩ := Rd.of_own (E := EB) (l := List.replicate n false) hown hz
        injection he with e1 e2 e3
        subst e1 e3
        exact hr'
      refine ⟨((w1, some ⟨g38, 0, none⟩, n, j), 0), ⟨Nat.zero_le _, ⟨hw1.ext, hj, ?_, ?_⟩⟩, (by repeat (first | exact Sub.nil | refine Sub.cons (by rfl) ?_)), ?_⟩
      · show Rd EB w1 (fun k => k ∉ feet [stp g (List.replicate n false).length j, _]) _ (List.replicate n false).length n (List.replicate n false)
        rw [hz]
        refine hr0.weak fun k hk hm => ?_
        rw [feet_cons, List.nodup_append] at hnd
        exact hnd.2.2 k (by show k ∈ (Value.slice (some ⟨g38, 0, none⟩) n n).ownBlock.toList; rw [hk]; simp) k hm rfl
      · show ∀ k ∈ feet [stp g (List.replicate n false).length j, _], _
        rw [hz]
        intro k hk
        rcases Nat.lt_or_ge k w.heap.size with h | h
        · exact absurd (hw1.cov k (by rw [feet_cons]; exact List.mem_append_right _ hk) h) (by simp)
        · exact h
      · show SH w1 (feet [stp g (List.replicate n false).length j, _]) [stp g (List.replicate n false).length j, _] w1
        rw [hz]
        exact (hw1.rem Rem.head).rebase
    · rintro ⟨⟨wi, Ai, ci, i⟩, y⟩ ⟨hy, hok⟩
      have hbl := setsZ_len n (l.take y)
      have hxi := hok.ext
      have hjj := hok.ok
      have hri := hok.rd
      have hfr := hok.fresh
      dsimp only at hy hxi hjj hri hfr ⊢
      generalize hb : setsZ n (l.take y) = b at *
      subst hbl
      refine CW.seq (CW.seq (CW.region ?_))
      refine RW.move rfl rfl ?_
      refine RW.move rfl rfl ?_
      refine RW.lenSl Tryd.underlying23 rfl rfl ?_
      refine RW.lss rfl rfl rfl ?_
      refine RW.nil (EX.seq ?_)
      -- mq: cond
      first | refine CW.condD rfl (fun hlt => ?_) (fun hlt => ?_) | refine CW.cond rfl (fun hlt => ?_) (fun hlt => ?_)
      · skip
        obtain ⟨v, hv⟩ : ∃ v, l[y]? = some v := ⟨l[y]'(by omega), List.getElem?_eq_getElem _⟩
        have hv16 := hl16 v (List.mem_of_getElem? hv)
        have hsn := setsZ_snoc (n := b.length) hv
        rw [hb] at hsn
        obtain ⟨ad, hA, hFb, hcell⟩ := (hrs.ext hxi (by simp)).at_ hv
        have hnf : ∀ q ∈ feet [stp g b.length i, blk g5 [.int .i64 x, .int .i64 k] 47], ad.block ≠ q := fun q hq e => by have := hfr q hq; have := hFb.2; omega
        refine CW.skip (EX.seq (CW.seq (CW.block (CW.seq ?_))))
        -- mq: region
        refine CW.region ?_
        refine RW.move rfl rfl ?_
        refine RW.move rfl rfl ?_
        refine RW.move rfl rfl ?_
        refine RW.ixAddr (q := y) sl23 rfl rfl rfl hA (by omega) (by omega) ?_
        refine RW.load1 sc22 rfl rfl (fun w' hw' => hw'.base_cell (hcell 0 _ rfl) (fun hm => hnf _ hm (by simp [block_add]))) ?_
        refine RW.convI rfl rfl Tryd.underlying22 Tryd.underlying3 (wrap64 (by omega) (by omega)) ?_
        refine RW.callUI (fun j => [stp g b.length j, blk g5 [.int .i64 x, .int .i64 k] 47]) rfl ca11 rfl (fun _ => Upd.head) (fun w' hw' => set_n hjj rfl (hw'.has Has.head) (by have := hw'.nodup; simp only [feet_cons, List.nodup_append] at this; exact this.1) v (by omega)) (fun j2 hj2 => ?_)
        refine RW.nil (EX.seq ?_)
        -- mq: region
        refine CW.region ?_
        refine RW.move rfl rfl ?_
        refine RW.move rfl rfl ?_
        refine RW.move rfl rfl ?_
        refine RW.ixAddr (q := y) sl23 rfl rfl rfl hA (by omega) (by omega) ?_
        refine RW.load1 sc22 rfl rfl (fun w' hw' => hw'.base_cell (hcell 0 _ rfl) (fun hm => hnf _ hm (by simp [block_add]))) ?_
        refine RW.convI rfl rfl Tryd.underlying22 Tryd.underlying3 (wrap64 (by omega) (by omega)) ?_
        refine RW.callK rfl ca15 rfl (fun w' hw' => refWith_c w' _ Ai _ ci b (hri.ext hw'.ext (fun k hk => hk)) (by omega) v true) (fun w3 w4 A4 n4 c4 hw3 he34 hw4 hlt4 hrd4 => ?_)
        refine RW.assign rfl rfl ?_
        refine RW.nil (EX.bkN (EX.seq (CW.region ?_)))
        refine RW.move rfl rfl ?_
        refine RW.add rfl rfl rfl (wrap64 (by omega) (by omega)) ?_
        refine RW.assign rfl rfl ?_
        refine RW.nil ?_
        -- mq: loopend
        have hl2 := withB_len b (v : Int) true
        have hn4 := hrd4.len
        rw [hl2] at hn4
        subst hn4
        rw [← hl2] at hw3 hlt4
        have hok2 := hok.next hw3 he34 hj2 hlt4 hrd4
        refine EX.lpN ((w4, A4, c4, j2), y + 1) ⟨by dsimp only; omega, by dsimp only; rw [hsn]; exact hok2⟩ (by dsimp only; omega) (by repeat (first | exact Sub.nil | refine Sub.cons (by rfl) ?_)) (fun w' hw' => ?_)
        dsimp only [HS]
        rw [hsn, hl2]
        exact hw'
      · skip
        refine CW.exit (EX.seqE (EX.lpE (EX.bkE (EX.seq (CW.seq ?_)))))
        -- mq: region
        refine CW.drawU [0, 1, 2, 3, 4, 6, 7, 8, 9, 10] 4 [[(5, false, []), (11, false, [12, 13, 14, 15, 16, 17, 18, 20, 21, 22, 23, 24]), (19, false, []), (25, false, [26, 27, 28])]] (HS g b (blk g5 [.int .i64 x, .int .i64 k] 47) (wi, Ai, ci, i)) mixed (by kernel_rfl) (fun _ hw => hw.drew) (fun _ h => (by first | trivial | exact h | exact h.ch | exact (h.rem Rem.head).ch | exact ((h.rem Rem.head).rem Rem.head).ch | exact (((h.rem Rem.head).rem Rem.head).rem Rem.head).ch)) ?_
        refine QuP.cons rfl (fun wq hq => (RW.move rfl rfl RW.jn)) ?_
        refine QuP.cons rfl (fun wq hq => (RW.ixArr (q := 0) Tryd.underlying47 ar47 rfl rfl rfl (by omega) (by omega) RW.jn)) ?_
        refine QuP.cons rfl (fun wq hq => (RW.load1 sc3 rfl rfl (fun w1 e1 => by subst e1; exact (hq.blk_cell (o := 0) (Has.tail Has.head) rfl)) RW.jn)) ?_
        refine QuP.cons rfl (fun wq hq => (RW.ixArr (q := 1) Tryd.underlying47 ar47 rfl rfl rfl (by omega) (by omega) RW.jn)) ?_
        refine QuP.cons rfl (fun wq hq => (RW.load1 sc3 rfl rfl (fun w1 e1 => by subst e1; exact (hq.blk_cell (o := 1) (Has.tail Has.head) rfl)) RW.jn)) ?_
        refine QuP.cons rfl (fun wq hq => (RW.move rfl rfl RW.jn)) ?_
        refine QuP.cons rfl (fun wq hq => (RW.ixArr (q := 0) Tryd.underlying47 ar47 rfl rfl rfl (by omega) (by omega) RW.jn)) ?_
        refine QuP.cons rfl (fun wq hq => (RW.load1 sc3 rfl rfl (fun w1 e1 => by subst e1; exact (hq.blk_cell (o := 0) (Has.tail Has.head) rfl)) RW.jn)) ?_
        refine QuP.cons rfl (fun wq hq => (RW.ixArr (q := 1) Tryd.underlying47 ar47 rfl rfl rfl (by omega) (by omega) RW.jn)) ?_
        refine QuP.cons rfl (fun wq hq => (RW.load1 sc3 rfl rfl (fun w1 e1 => by subst e1; exact (hq.blk_cell (o := 1) (Has.tail Has.head) rfl)) RW.jn)) ?_
        refine QuP.nil ?_
        refine UW.step [_] rfl (List.forall_mem_cons.2 ⟨?_, by simp⟩)
        refine RW.call rfl ca22 rfl (fun w' hw' => next_n (hg.ext (hw'.unbase hxi (fun k hk hlt => by have := hfr k hk; omega) : SH w [] _ w').ext) hjj rfl (hw'.has Has.head) (by omega) x k) ?_
        refine RW.st (fun _ => True) (fun _ h => .inr (by first | trivial | exact h | exact h.ch | exact (h.rem Rem.head).ch | exact ((h.rem Rem.head).rem Rem.head).ch | exact (((h.rem Rem.head).rem Rem.head).rem Rem.head).ch)) (fun _ h => trivial) ?_
        refine QuP.nil ?_
        refine UW.step [_] rfl (List.forall_mem_cons.2 ⟨?_, by simp⟩)
        refine RW.call rfl ca24 rfl (fun w' hw' => goUp_c w' _ Ai _ ci b (hri.ext hw'.ext (fun k hk => hk)) (by omega) x k) ?_
        refine RW.st (HS g b (blk g5 [.int .i64 x, .int .i64 k] 47) (wi, Ai, ci, i)) (fun _ h => .inr ⟨.inr (by first | trivial | exact h | exact h.ch | exact (h.rem Rem.head).ch | exact ((h.rem Rem.head).rem Rem.head).ch | exact (((h.rem Rem.head).rem Rem.head).rem Rem.head).ch), trivial⟩) (fun _ h => (by first | trivial | exact h | exact h.ch | exact (h.rem Rem.head).ch | exact ((h.rem Rem.head).rem Rem.head).ch | exact (((h.rem Rem.head).rem Rem.head).rem Rem.head).ch)) ?_
        refine QuP.cons rfl (fun wq hq => (RW.eqlI rfl rfl rfl RW.jn)) ?_
        refine QuP.cons rfl (fun wq hq => (RW.move rfl rfl RW.jn)) ?_
        refine QuP.cons rfl (fun wq hq => RW.guardT rfl rfl ((by simp)) (RW.move rfl rfl RW.jn)) ?_
        refine QuP.cons rfl (fun wq hq => RW.guardT rfl rfl ((by simp)) (RW.ixArr (q := 0) Tryd.underlying47 ar47 rfl rfl rfl (by omega) (by omega) RW.jn)) ?_
        refine QuP.cons rfl (fun wq hq => RW.guardT rfl rfl ((by simp)) (RW.load1 sc3 rfl rfl (fun w1 e1 => by subst e1; exact (hq.blk_cell (o := 0) (Has.tail Has.head) rfl)) RW.jn)) ?_
        refine QuP.cons rfl (fun wq hq => RW.guardT rfl rfl ((by simp)) (RW.ixArr (q := 1) Tryd.underlying47 ar47 rfl rfl rfl (by omega) (by omega) RW.jn)) ?_
        refine QuP.cons rfl (fun wq hq => RW.guardT rfl rfl ((by simp)) (RW.load1 sc3 rfl rfl (fun w1 e1 => by subst e1; exact (hq.blk_cell (o := 1) (Has.tail Has.head) rfl)) RW.jn)) ?_
        refine QuP.cons rfl (fun wq hq => RW.guardT rfl rfl ((by simp)) (RW.move rfl rfl RW.jn)) ?_
        refine QuP.cons rfl (fun wq hq => RW.guardT rfl rfl ((by simp)) (RW.ixArr (q := 0) Tryd.underlying47 ar47 rfl rfl rfl (by omega) (by omega) RW.jn)) ?_
        refine QuP.cons rfl (fun wq hq => RW.guardT rfl rfl ((by simp)) (RW.load1 sc3 rfl rfl (fun w1 e1 => by subst e1; exact (hq.blk_cell (o := 0) (Has.tail Has.head) rfl)) RW.jn)) ?_
        refine QuP.cons rfl (fun wq hq => RW.guardT rfl rfl ((by simp)) (RW.ixArr (q := 1) Tryd.underlying47 ar47 rfl rfl rfl (by omega) (by omega) RW.jn)) ?_
        refine QuP.cons rfl (fun wq hq => RW.guardT rfl rfl ((by simp)) (RW.load1 sc3 rfl rfl (fun w1 e1 => by subst e1; exact (hq.blk_cell (o := 1) (Has.tail Has.head) rfl)) RW.jn)) ?_
        refine QuP.nil ?_
        refine UW.step [_] rfl (List.forall_mem_cons.2 ⟨?_, by simp⟩)
        refine RW.guardT rfl rfl ((by simp)) ?_
        refine RW.call rfl ca23 rfl (fun w' hw' => ahead_n hjj rfl (hw'.has Has.head) (by omega) x k) ?_
        refine RW.st (fun _ => True) (fun _ h => .inr ⟨.inr ⟨.inr (by first | trivial | exact h | exact h.ch | exact (h.rem Rem.head).ch | exact ((h.rem Rem.head).rem Rem.head).ch | exact (((h.rem Rem.head).rem Rem.head).rem Rem.head).ch), trivial⟩, (by first | trivial | exact h | exact h.ch | exact (h.rem Rem.head).ch | exact ((h.rem Rem.head).rem Rem.head).ch | exact (((h.rem Rem.head).rem Rem.head).rem Rem.head).ch)⟩) (fun _ h => trivial) ?_
        refine QuP.nil ?_
        refine UW.step [_] rfl (List.forall_mem_cons.2 ⟨?_, by simp⟩)
        refine RW.guardT rfl rfl ((by simp)) ?_
        refine RW.call rfl ca24 rfl (fun w' hw' => goDown_c w' _ Ai _ ci b (hri.ext hw'.ext (fun k hk => hk)) (by omega) x k) ?_
        refine RW.st (fun _ => True) (fun _ h => .inr ⟨.inr ⟨.inr ⟨.inr (by first | trivial | exact h | exact h.ch | exact (h.rem Rem.head).ch | exact ((h.rem Rem.head).rem Rem.head).ch | exact (((h.rem Rem.head).rem Rem.head).rem Rem.head).ch), trivial⟩, (by first | trivial | exact h | exact h.ch | exact (h.rem Rem.head).ch | exact ((h.rem Rem.head).rem Rem.head).ch | exact (((h.rem Rem.head).rem Rem.head).rem Rem.head).ch)⟩, trivial⟩) (fun _ h => trivial) ?_
        refine QuP.cons rfl (fun wq hq => RW.guardT rfl rfl ((by simp)) (RW.eqlI rfl rfl rfl RW.jn)) ?_
        refine QuP.cons rfl (fun wq hq => (RW.pickB rfl rfl (by simp) rfl RW.jn)) ?_
        refine QuP.cons rfl (fun wq hq => (RW.assign rfl rfl RW.jn)) ?_
        refine QuP.nil ?_
        refine UW.nil (EX.seq (CW.ret ?_))
        refine EX.fin1 Tryd.results6 rfl (fun wz hw => ?_)
        -- mq: done
        exact ⟨by simp, (hw.unbase hxi (fun k hk hlt => by have := hfr k hk; omega) : SH w [] _ _).ext⟩
end Go.Proofs.YthfbdbahggklnaaDoor.Mq
