/- tabs: walk of TabsPlays -/
import Derived.Test.YthfbdbahggklnaaDoorTbA
namespace Go.Proofs.YthfbdbahggklnaaDoor.Mq
open Go Go.RowKit Go.Proofs

structure OpT where
  kind : Int
  x : Int
def EOpT : Enc OpT := ⟨fun o => [.int .i64 o.kind, .int .i64 o.x], 2, fun _ => rfl, fun _ => by repeat (first | exact Ones.nil | refine Ones.cons rfl ?_)⟩
def stepB (bs : List Bool) (o : OpT) : List Bool :=
  if o.kind = 0 then withB bs o.x true
  else if o.kind = 1 then withB bs o.x false
  else if o.kind = 2 then List.replicate bs.length false
  else if o.kind = 3 ∧ 2 ≤ o.x ∧ o.x ≤ 1000 then sizeB bs o.x.toNat
  else bs
theorem stepB_len {bs : List Bool} (h : 2 ≤ bs.length ∧ bs.length ≤ 1000) (o : OpT) : 2 ≤ (stepB bs o).length ∧ (stepB bs o).length ≤ 1000 := by
  unfold stepB
  split
  · rw [withB_len]; exact h
  · split
    · rw [withB_len]; exact h
    · split
      · simpa using h
      · split
        · rw [sizeB_len]; omega
        · exact h
def playT (n : Nat) (l : List OpT) : List Bool := l.foldl stepB (sizeB [] n)
theorem playT_snoc {n : Nat} {l : List OpT} {k : Nat} {o : OpT} (h : l[k]? = some o) : playT n (l.take (k + 1)) = stepB (playT n (l.take k)) o := by
  rw [List.take_add_one, h, Option.toList_some, playT, List.foldl_append]
  rfl
theorem playT_len {n : Nat} (hn : 2 ≤ n ∧ n ≤ 1000) (l : List OpT) : 2 ≤ (playT n l).length ∧ (playT n l).length ≤ 1000 := by
  unfold playT
  have key : ∀ (l : List OpT) (b : List Bool), (2 ≤ b.length ∧ b.length ≤ 1000) → 2 ≤ (l.foldl stepB b).length ∧ (l.foldl stepB b).length ≤ 1000 := by
    intro l
    induction l with
    | nil => intro b h; exact h
    | cons v l ih => intro b h; rw [List.foldl_cons]; exact ih _ (stepB_len h v)
  exact key l _ (by rw [sizeB_len]; exact hn)
/-- a chunk of nothing -/
def emp : Chunk := ⟨[], fun _ => True, fun _ _ _ h => by simp at h, fun _ _ _ h => h⟩
theorem OkS.move {w0 w1 w3 w4 : World} {g : Nat} {bs : List Bool} {x : Chunk} {A : Option Addr} {c : Nat} {i : SI} (h : OkS w0 g bs x (w1, A, c, i)) (hw3 : SH w1 (feet [stp g bs.length i, x]) [stp g bs.length i, x] w3) (he : Ext [] w3 w4) : OkS w0 g bs x (w4, A, c, i) :=
  ⟨(h.ext.trans hw3.ext (fun k hk hlt => by have := h.fresh k hk; omega)).trans0 he, h.ok, (h.rd.ext hw3.ext (fun k hk => hk)).ext he (by simp), h.fresh⟩
theorem nodup1 {x y : Chunk} {b w : World} {S : List Nat} (h : SH b S [x, y] w) : x.foot.Nodup := by
  have := h.nodup
  simp only [feet_cons, List.nodup_append] at this
  exact this.1
theorem lawPlays_c (w : World) (hg : Gt w) (cols : Nat) (hcols : cols < 65536) (F : Nat → Prop) (A : Option Addr) (m c : Nat) (l : List OpT) (hr : Rd EOpT w F A m c l) (hm : m ≤ 140737488351232) (hl64 : ∀ o ∈ l, (-9223372036854775808 ≤ o.kind ∧ o.kind ≤ 9223372036854775807) ∧ -9223372036854775808 ≤ o.x ∧ o.x ≤ 9223372036854775807) :
    Calls Tryd.prog 4 [.int .u16 (cols : Int), .slice A m c].toArray w (fun e w' => e = .returned (.bool true) ∧ Ext [] w w') := by
  have hlen := hr.len
  have hrs := hr.strong (by decide)
  refine calls (n := 143) Tryd.func4 rfl Tryd.ntmps4 rfl ?_
  refine CW.sub (H' := SH w [] []) ?_ (Sub.refl _) (fun x hx => SH.start' _ _ hx)
  refine CW.seq (CW.region ?_)
  refine RW.assign rfl rfl ?_
  refine RW.nil (EX.seq (CW.seq (CW.seq (CW.region ?_))))
  refine RW.move rfl rfl ?_
  refine RW.lenSl Tryd.underlying33 rfl rfl ?_
  refine RW.gtr rfl rfl rfl ?_
  refine RW.move rfl rfl ?_
  -- mq: guard slot 15
  refine RW.casesB 15 rfl (fun h1 => ?_) (fun h1 => ?_)
  · skip
    have h1p := of_decide_eq_true h1
    refine RW.guardF rfl rfl rfl h1 ?_
    refine RW.guardF rfl rfl rfl h1 ?_
    refine RW.pickB rfl rfl h1 rfl ?_
    refine RW.nil (EX.seq ?_)
    -- mq: cond
    refine CW.condT rfl (rfl) ?_
    refine CW.seq (CW.region ?_)
    refine RW.call rfl ca8 rfl (fun w' hw' => awake_c w' (hg.ext hw'.ext)) ?_
    refine RW.assign rfl rfl ?_
    refine RW.nil (EX.seq (CW.ret (EX.seqR ?_)))
    refine EX.fin1 Tryd.results4 rfl (fun wz hw => ?_)
    -- mq: done
    exact ⟨rfl, hw.ext⟩
  · skip
    have h1p := of_decide_eq_false h1
    refine RW.guardT rfl rfl h1 ?_
    refine RW.call rfl ca8 rfl (fun w' hw' => awake_c w' (hg.ext hw'.ext)) ?_
    refine RW.guardT rfl rfl h1 ?_
    refine RW.not_ rfl rfl ?_
    refine RW.pickC rfl rfl h1 rfl ?_
    refine RW.nil (EX.seq ?_)
    -- mq: cond
    refine CW.condF rfl (rfl) ?_
    refine CW.skip (EX.seq (CW.seq (CW.region ?_)))
    refine RW.move rfl rfl ?_
    refine RW.remN rfl rfl rfl (by omega) (by omega) ?_
    refine RW.convI rfl rfl Tryd.underlying22 Tryd.underlying3 (wrap64 (by omega) (by omega)) ?_
    refine RW.add rfl rfl rfl (wrap64 (by omega) (by omega)) ?_
    refine RW.assign rfl rfl ?_
    refine RW.nil (EX.seq (CW.seq ?_))
    -- mq: region
    rw [colsF_eq]
    obtain ⟨n, hn⟩ : ∃ n, colsF cols = n := ⟨_, rfl⟩
    have hnr := colsF_range cols
    rw [hn] at hnr ⊢
    refine CW.region ?_
    refine RW.move rfl rfl ?_
    -- mq: at
    refine RW.callNew rfl ca9 rfl (fun w' _ => new_c w' n hnr) (fun s hs => ?_)
    obtain ⟨g, i⟩ := s
    dsimp only at hs ⊢
    refine RW.move rfl rfl ?_
    refine RW.extract rfl rfl rfl ?_
    refine RW.extract rfl rfl rfl ?_
    refine RW.assign rfl rfl ?_
    refine RW.assign rfl rfl ?_
    refine RW.nil (EX.seq (CW.seq (CW.seq (CW.region ?_))))
    refine RW.move rfl rfl ?_
    refine RW.neqI rfl rfl rfl ?_
    refine RW.move rfl rfl ?_
    refine RW.guardT rfl rfl rfl ?_
    refine RW.move rfl rfl ?_
    refine RW.guardT rfl rfl rfl ?_
    refine RW.eqlP Tryd.underlying25 rfl rfl rfl ?_
    refine RW.pickC rfl rfl rfl rfl ?_
    refine RW.nil (EX.seq ?_)
    -- mq: cond
    refine CW.condF rfl (rfl) ?_
    refine CW.skip (EX.seq (CW.seq ?_))
    -- mq: region
    have hl0 : (sizeB [] n).length = n := sizeB_len _ _
    refine CW.region ?_
    refine RW.move rfl rfl ?_
    refine RW.callK rfl ca14 rfl (fun w' hw' => refFirst_c w' n hnr.2) (fun w3 w4 A4 n4 c4 hw3 he34 hw4 hlt4 hrd4 => ?_)
    refine RW.assign rfl rfl ?_
    refine RW.nil (EX.seq (CW.seq (CW.seq (CW.region ?_))))
    refine RW.assign rfl rfl ?_
    refine RW.nil (EX.seq (CW.block ?_))
    -- mq: loop
    have hn4 := hrd4.len
    rw [hl0] at hn4
    subst hn4
    refine CW.loop (ι := (World × Option Addr × Nat × SI) × Nat) (fun s => [(1, .slice A m c), (6, ptr g), (8, .slice s.1.2.1 (playT n (l.take s.2)).length s.1.2.2.1), (9, .int .i64 (s.2 : Int))]) (fun s => HS g (playT n (l.take s.2)) emp s.1)
      (fun s => s.2 ≤ m ∧ OkS w g (playT n (l.take s.2)) emp s.1) (fun s => m - s.2) ?_ ?_
    · intro w1 hw1
      have e0 : playT n (l.take 0) = sizeB [] n := rfl
      have hf0 : feet [stp g n i, emp] = feet [stp g n i] := by simp [feet, emp]
      refine ⟨((w4, A4, c4, i), 0), ⟨Nat.zero_le _, ?_⟩, (Sub.cons (by rfl) (Sub.cons (by rfl) (Sub.cons (by rw [e0, hl0]; rfl) (Sub.cons (by rfl) Sub.nil)))), ?_⟩
      · dsimp only
        rw [e0]
        refine ⟨hw3.ext.trans0 he34, hs, ?_, ?_⟩
        · dsimp only
          rw [hl0, hf0]
          exact hrd4.weak (fun k hk hm => by have := hlt4 k hm; omega)
        · dsimp only
          rw [hl0, hf0]
          intro k hk
          rcases Nat.lt_or_ge k w.heap.size with h | h
          · exact absurd (hw3.cov k hk h) (by simp)
          · exact h
      · dsimp only [HS]
        rw [e0, hl0, hf0]
        exact (hw1.addPure (c := emp) trivial rfl).perm (List.Perm.swap _ _ _)
    · rintro ⟨⟨wi, Ai, ci, i⟩, k⟩ ⟨hk, hok⟩
      have hbl := playT_len hnr (l.take k)
      have hjj := hok.ok
      have hxi := hok.ext
      have hri := hok.rd
      have hfr := hok.fresh
      dsimp only at hk hok hjj hxi hri hfr ⊢
      generalize hb : playT n (l.take k) = b at *
      refine CW.seq (CW.seq (CW.region ?_))
      refine RW.move rfl rfl ?_
      refine RW.move rfl rfl ?_
      refine RW.lenSl Tryd.underlying33 rfl rfl ?_
      refine RW.lss rfl rfl rfl ?_
      refine RW.nil (EX.seq ?_)
      -- mq: cond
      first | refine CW.condD rfl (fun hlt => ?_) (fun hlt => ?_) | refine CW.cond rfl (fun hlt => ?_) (fun hlt => ?_)
      · skip
        obtain ⟨o, ho⟩ : ∃ o, l[k]? = some o := ⟨l[k]'(by omega), List.getElem?_eq_getElem _⟩
        have hox := (hl64 o (List.mem_of_getElem? ho)).2
        have hsn := playT_snoc (n := n) ho
        rw [hb] at hsn
        obtain ⟨ad, hA, hFb, hcell⟩ := (hrs.ext hxi (by simp)).at_ ho
        have hnf : ∀ q ∈ feet [stp g b.length i, emp], ad.block ≠ q := fun q hq e => by have := hfr q hq; have := hFb.2; omega
        refine CW.skip (EX.seq (CW.seq (CW.block (CW.seq (CW.seq ?_)))))
        -- mq: region
        refine CW.region ?_
        refine RW.move rfl rfl ?_
        refine RW.move rfl rfl ?_
        refine RW.ixAddr (q := k) sl33 rfl rfl rfl hA (by omega) (by omega) ?_
        refine RW.fieldP fl38x0 rfl rfl ?_
        refine RW.load1 sc3 rfl rfl (fun w' hw' => hw'.base_cell (hcell 0 _ rfl) (fun hm => hnf _ hm (by simp [block_add]))) ?_
        refine RW.nil (EX.seq ?_)
        -- mq: block
        refine CW.joinI (fun s : World × Option Addr × Nat × SI => [(1, .slice A m c), (6, ptr g), (8, .slice s.2.1 (stepB b o).length s.2.2.1), (9, .int .i64 (k : Int))]) (fun s => HS g (stepB b o) emp s) (fun s => OkS w g (stepB b o) emp s) ?_ ?_
        · skip
          refine CW.block (CW.seq (CW.region ?_))
          refine RW.eqlI rfl rfl rfl ?_
          refine RW.assign rfl rfl ?_
          refine RW.nil (EX.seq ?_)
          -- mq: cond
          first | refine CW.condD rfl (fun h0 => ?_) (fun h0 => ?_) | refine CW.cond rfl (fun h0 => ?_) (fun h0 => ?_)
          · skip
            have hb2 : stepB b o = withB b o.x true := by unfold stepB; rw [if_pos h0]
            rw [hb2]
            refine CW.seq ?_
            -- mq: region
            refine CW.region ?_
            refine RW.move rfl rfl ?_
            refine RW.move rfl rfl ?_
            refine RW.move rfl rfl ?_
            refine RW.ixAddr (q := k) sl33 rfl rfl rfl hA (by omega) (by omega) ?_
            refine RW.fieldP fl38x1 rfl rfl ?_
            refine RW.load1 sc3 rfl rfl (fun w' hw' => hw'.base_cell (hcell 1 _ rfl) (fun hm => hnf _ hm (by simp [block_add]))) ?_
            refine RW.callUI (fun j => [stp g b.length j, emp]) rfl ca11 rfl (fun _ => Upd.head) (fun w' hw' => set_n hjj rfl (hw'.has Has.head) (nodup1 hw') o.x hox) (fun j2 hj2 => ?_)
            refine RW.nil (EX.seq ?_)
            -- mq: region
            refine CW.region ?_
            refine RW.move rfl rfl ?_
            refine RW.move rfl rfl ?_
            refine RW.move rfl rfl ?_
            refine RW.ixAddr (q := k) sl33 rfl rfl rfl hA (by omega) (by omega) ?_
            refine RW.fieldP fl38x1 rfl rfl ?_
            refine RW.load1 sc3 rfl rfl (fun w' hw' => hw'.base_cell (hcell 1 _ rfl) (fun hm => hnf _ hm (by simp [block_add]))) ?_
            refine RW.callK rfl ca15 rfl (fun w' hw' => refWith_c w' _ Ai _ ci b (hri.ext hw'.ext (fun k hk => hk)) (by omega) o.x true) (fun w3 w4 A4 n4 c4 hw3 he34 hw4 hlt4 hrd4 => ?_)
            refine RW.assign rfl rfl ?_
            refine RW.nil (EX.bkN ?_)
            -- mq: joinend
            have hl2 := withB_len b o.x true
            have hn4 := hrd4.len
            rw [hl2] at hn4
            subst hn4
            rw [← hl2] at hw3 hlt4
            have hok2 := hok.next hw3 he34 hj2 hlt4 hrd4
            refine EX.jnI (w4, A4, c4, j2) hok2 (Sub.cons (by rfl) (Sub.cons (by rfl) (Sub.cons (by rw [hl2]; rfl) (Sub.cons (by rfl) Sub.nil)))) (fun w' hw' => ?_)
            dsimp only [HS]
            rw [hl2]
            exact hw'
          · skip
            refine CW.seq (CW.region ?_)
            refine RW.eqlI rfl rfl rfl ?_
            refine RW.assign rfl rfl ?_
            refine RW.nil (EX.seq ?_)
            -- mq: cond
            first | refine CW.condD rfl (fun h1 => ?_) (fun h1 => ?_) | refine CW.cond rfl (fun h1 => ?_) (fun h1 => ?_)
            · skip
              have hb2 : stepB b o = withB b o.x false := by unfold stepB; rw [if_neg h0, if_pos h1]
              rw [hb2]
              refine CW.seq ?_
              -- mq: region
              refine CW.region ?_
              refine RW.move rfl rfl ?_
              refine RW.move rfl rfl ?_
              refine RW.move rfl rfl ?_
              refine RW.ixAddr (q := k) sl33 rfl rfl rfl hA (by omega) (by omega) ?_
              refine RW.fieldP fl38x1 rfl rfl ?_
              refine RW.load1 sc3 rfl rfl (fun w' hw' => hw'.base_cell (hcell 1 _ rfl) (fun hm => hnf _ hm (by simp [block_add]))) ?_
              refine RW.callUI (fun j => [stp g b.length j, emp]) rfl ca13 rfl (fun _ => Upd.head) (fun w' hw' => clear_n hjj rfl (hw'.has Has.head) (nodup1 hw') o.x hox) (fun j2 hj2 => ?_)
              refine RW.nil (EX.seq ?_)
              -- mq: region
              refine CW.region ?_
              refine RW.move rfl rfl ?_
              refine RW.move rfl rfl ?_
              refine RW.move rfl rfl ?_
              refine RW.ixAddr (q := k) sl33 rfl rfl rfl hA (by omega) (by omega) ?_
              refine RW.fieldP fl38x1 rfl rfl ?_
              refine RW.load1 sc3 rfl rfl (fun w' hw' => hw'.base_cell (hcell 1 _ rfl) (fun hm => hnf _ hm (by simp [block_add]))) ?_
              refine RW.callK rfl ca15 rfl (fun w' hw' => refWith_c w' _ Ai _ ci b (hri.ext hw'.ext (fun k hk => hk)) (by omega) o.x false) (fun w3 w4 A4 n4 c4 hw3 he34 hw4 hlt4 hrd4 => ?_)
              refine RW.assign rfl rfl ?_
              refine RW.nil (EX.bkN ?_)
              -- mq: joinend
              have hl2 := withB_len b o.x false
              have hn4 := hrd4.len
              rw [hl2] at hn4
              subst hn4
              rw [← hl2] at hw3 hlt4
              have hok2 := hok.next hw3 he34 hj2 hlt4 hrd4
              refine EX.jnI (w4, A4, c4, j2) hok2 (Sub.cons (by rfl) (Sub.cons (by rfl) (Sub.cons (by rw [hl2]; rfl) (Sub.cons (by rfl) Sub.nil)))) (fun w' hw' => ?_)
              dsimp only [HS]
              rw [hl2]
              exact hw'
            · skip
              refine CW.seq (CW.region ?_)
              refine RW.eqlI rfl rfl rfl ?_
              refine RW.assign rfl rfl ?_
              refine RW.nil (EX.seq ?_)
              -- mq: cond
              first | refine CW.condD rfl (fun h2 => ?_) (fun h2 => ?_) | refine CW.cond rfl (fun h2 => ?_) (fun h2 => ?_)
              · skip
                have hb2 : stepB b o = List.replicate b.length false := by unfold stepB; rw [if_neg h0, if_neg h1, if_pos h2]
                have hl2 : (List.replicate b.length false).length = b.length := by simp
                rw [hb2]
                refine CW.seq ?_
                -- mq: region
                refine CW.region ?_
                refine RW.move rfl rfl ?_
                refine RW.callUI (fun j => [stp g b.length j, emp]) rfl ca16 rfl (fun _ => Upd.head) (fun w' hw' => none_n hjj rfl (hw'.has Has.head) (nodup1 hw') (by omega)) (fun j2 hj2 => ?_)
                refine RW.nil (EX.seq ?_)
                -- mq: region
                refine CW.region ?_
                refine RW.move rfl rfl ?_
                refine RW.lenSl Tryd.underlying35 rfl rfl ?_
                refine RW.make b.length sl35 rfl rfl rfl rfl (by simp only [maxLen]; omega) (by omega) (fun g86 hgl hgf => ?_)
                -- mq: at
                rw [EB_zeros]
                refine RW.assign rfl rfl ?_
                refine RW.nil (EX.bkN ?_)
                -- mq: joinend
                intro w1 hw1
                have hown := hw1.has Has.head
                have hnd := hw1.nodup
                obtain ⟨A', c', he, hr'⟩ := Rd.of_own (E := EB) (l := List.replicate b.length false) hown hl2
                injection he with e1 e2 e3
                subst e1 e3
                have hok3 : OkS w g (List.replicate b.length false) emp (w1, some ⟨g86, 0, none⟩, b.length, j2) := by
                  refine ⟨hxi.trans hw1.ext (fun k hk hlt => by have := hfr k hk; omega), hj2, ?_, ?_⟩
                  · dsimp only
                    rw [hl2]
                    refine hr'.weak fun k hk hm => ?_
                    rw [feet_cons, List.nodup_append] at hnd
                    exact hnd.2.2 k (by show k ∈ (Value.slice (some ⟨g86, 0, none⟩) b.length b.length).ownBlock.toList; rw [hk]; simp) k hm rfl
                  · dsimp only
                    rw [hl2]
                    intro k hk
                    rcases Nat.lt_or_ge k wi.heap.size with h | h
                    · exact hfr k (hw1.cov k (by rw [feet_cons]; exact List.mem_append_right _ hk) h)
                    · exact Nat.le_trans hxi.size h
                refine EX.jnI (H := fun x => x = w1) (w1, some ⟨g86, 0, none⟩, b.length, j2) hok3 (Sub.cons (by rfl) (Sub.cons (by rfl) (Sub.cons (by rw [hl2]; rfl) (Sub.cons (by rfl) Sub.nil)))) (fun w' hw' => ?_) w1 rfl
                subst hw'
                dsimp only [HS]
                rw [hl2]
                exact (hw1.rem Rem.head).rebase
              · skip
                refine CW.seq (CW.region ?_)
                refine RW.eqlI rfl rfl rfl ?_
                refine RW.assign rfl rfl ?_
                refine RW.nil (EX.seq ?_)
                -- mq: cond
                first | refine CW.condD rfl (fun h3 => ?_) (fun h3 => ?_) | refine CW.cond rfl (fun h3 => ?_) (fun h3 => ?_)
                · skip
                  by_cases hx : 2 ≤ o.x ∧ o.x ≤ 1000
                  · skip
                    obtain ⟨q, hq⟩ : ∃ q : Nat, o.x = (q : Int) := ⟨o.x.toNat, by omega⟩
                    have hb2 : stepB b o = sizeB b q := by unfold stepB; rw [if_neg h0, if_neg h1, if_neg h2, if_pos ⟨h3, hx⟩, hq, Int.toNat_natCast]
                    have hl2 : (sizeB b q).length = q := sizeB_len _ _
                    rw [hb2]
                    refine CW.seq ?_
                    -- mq: region
                    refine CW.region ?_
                    refine RW.move rfl rfl ?_
                    refine RW.move rfl rfl ?_
                    refine RW.move rfl rfl ?_
                    refine RW.ixAddr (q := k) sl33 rfl rfl rfl hA (by omega) (by omega) ?_
                    refine RW.fieldP fl38x1 rfl rfl ?_
                    refine RW.load1 sc3 rfl rfl (fun w' hw' => hw'.base_cell (hcell 1 _ rfl) (fun hm => hnf _ hm (by simp [block_add]))) ?_
                    refine RW.callUI (fun j => [stp g q j, emp]) rfl ca17 (by rw [hq]; rfl) (fun _ => Upd.head) (fun w' hw' => size_n hjj rfl (hw'.has Has.head) (nodup1 hw') q (by omega)) (fun j2 hj2 => ?_)
                    refine RW.assign rfl rfl ?_
                    refine RW.nil (EX.seq (CW.seq ?_))
                    -- mq: region
                    refine CW.region ?_
                    refine RW.move rfl rfl ?_
                    refine RW.move rfl rfl ?_
                    refine RW.ixAddr (q := k) sl33 rfl rfl rfl hA (by omega) (by omega) ?_
                    refine RW.fieldP fl38x1 rfl rfl ?_
                    refine RW.load1 sc3 rfl rfl (fun w' hw' => hw'.base_cell (hcell 1 _ rfl) (fun hm => hnf _ hm (by simp [block_add]))) ?_
                    refine RW.geq rfl rfl rfl ?_
                    refine RW.move rfl rfl ?_
                    refine RW.guardT rfl rfl (decide_eq_true hx.1) ?_
                    refine RW.move rfl rfl ?_
                    refine RW.guardT rfl rfl (decide_eq_true hx.1) ?_
                    refine RW.move rfl rfl ?_
                    refine RW.guardT rfl rfl (decide_eq_true hx.1) ?_
                    refine RW.ixAddr (q := k) sl33 rfl rfl rfl hA (by omega) (by omega) ?_
                    refine RW.guardT rfl rfl (decide_eq_true hx.1) ?_
                    refine RW.fieldP fl38x1 rfl rfl ?_
                    refine RW.guardT rfl rfl (decide_eq_true hx.1) ?_
                    refine RW.load1 sc3 rfl rfl (fun w' hw' => hw'.base_cell (hcell 1 _ rfl) (fun hm => hnf _ hm (by simp [block_add]))) ?_
                    refine RW.guardT rfl rfl (decide_eq_true hx.1) ?_
                    refine RW.leq rfl rfl rfl ?_
                    refine RW.pickB rfl rfl (decide_eq_true hx.1) rfl ?_
                    refine RW.assign rfl rfl ?_
                    refine RW.nil (EX.seq (CW.seq (CW.seq ?_)))
                    -- mq: region
                    refine CW.region ?_
                    refine RW.move rfl rfl ?_
                    refine RW.move rfl rfl ?_
                    refine RW.eqlI rfl rfl rfl ?_
                    refine RW.neqB Tryd.underlying4 rfl rfl rfl ?_
                    refine RW.move rfl rfl ?_
                    refine RW.guardT rfl rfl (by rw [decide_eq_true hx.2]; try rfl) ?_
                    refine RW.move rfl rfl ?_
                    refine RW.guardT rfl rfl (by rw [decide_eq_true hx.2]; try rfl) ?_
                    refine RW.not_ rfl rfl ?_
                    refine RW.guardT rfl rfl (by rw [decide_eq_true hx.2]; try rfl) ?_
                    refine RW.move rfl rfl ?_
                    refine RW.guardF rfl rfl rfl (by rw [decide_eq_true hx.2]; try rfl) ?_
                    refine RW.guardF rfl rfl rfl (by rw [decide_eq_true hx.2]; try rfl) ?_
                    refine RW.guardT rfl rfl (by rw [decide_eq_true hx.2]; try rfl) ?_
                    refine RW.pickC rfl rfl (by rw [decide_eq_true hx.2]; try rfl) rfl ?_
                    refine RW.pickC rfl rfl (by rw [decide_eq_true hx.2]; try rfl) rfl ?_
                    refine RW.nil (EX.seq ?_)
                    -- mq: cond
                    refine CW.condF rfl ((by first | rfl | (rw [decide_eq_true hx.2]; rfl))) ?_
                    refine CW.skip (EX.seq (CW.seq (CW.region ?_)))
                    refine RW.move rfl rfl ?_
                    refine RW.nil (EX.seq ?_)
                    -- mq: cond
                    refine CW.condT rfl ((decide_eq_true hx.2)) ?_
                    -- mq: region
                    refine CW.region ?_
                    refine RW.move rfl rfl ?_
                    refine RW.move rfl rfl ?_
                    refine RW.move rfl rfl ?_
                    refine RW.ixAddr (q := k) sl33 rfl rfl rfl hA (by omega) (by omega) ?_
                    refine RW.fieldP fl38x1 rfl rfl ?_
                    refine RW.load1 sc3 rfl rfl (fun w' hw' => hw'.base_cell (hcell 1 _ rfl) (fun hm => hnf _ hm (by simp [block_add]))) ?_
                    refine RW.callK rfl ca18 (by rw [hq]; rfl) (fun w' hw' => refSize_c w' _ Ai _ ci b (hri.ext hw'.ext (fun k hk => hk)) q (by omega)) (fun w3 w4 A4 n4 c4 hw3 he34 hw4 hlt4 hrd4 => ?_)
                    refine RW.assign rfl rfl ?_
                    refine RW.nil (EX.bkN ?_)
                    -- mq: joinend
                    have hn4 := hrd4.len
                    rw [hl2] at hn4
                    subst hn4
                    have hok2 := hok.next (b2 := sizeB b q) (by rw [hl2]; exact hw3) he34 hj2 (by rw [hl2]; exact hlt4) hrd4
                    refine EX.jnI (w4, A4, c4, j2) hok2 (Sub.cons (by rfl) (Sub.cons (by rfl) (Sub.cons (by rw [hl2]; rfl) (Sub.cons (by rfl) Sub.nil)))) (fun w' hw' => ?_)
                    dsimp only [HS]
                    rw [hl2]
                    exact hw'
                  · skip
                    have hb2 : stepB b o = b := by unfold stepB; rw [if_neg h0, if_neg h1, if_neg h2, if_neg (fun h => hx h.2)]
                    rw [hb2]
                    refine CW.seq ?_
                    -- mq: region
                    refine CW.region ?_
                    refine RW.move rfl rfl ?_
                    refine RW.move rfl rfl ?_
                    refine RW.move rfl rfl ?_
                    refine RW.ixAddr (q := k) sl33 rfl rfl rfl hA (by omega) (by omega) ?_
                    refine RW.fieldP fl38x1 rfl rfl ?_
                    refine RW.load1 sc3 rfl rfl (fun w' hw' => hw'.base_cell (hcell 1 _ rfl) (fun hm => hnf _ hm (by simp [block_add]))) ?_
                    refine RW.call rfl ca17 rfl (fun w' hw' => size_err w' _ o.x (.inr hx)) ?_
                    refine RW.assign rfl rfl ?_
                    refine RW.nil (EX.seq (CW.seq ?_))
                    -- mq: region
                    refine CW.join ([(1, .slice A m c), (6, ptr g), (8, .slice Ai b.length ci), (9, .int .i64 (k : Int)), (10, .int .i64 1), (11, .bool false)]) (HS g b emp (wi, Ai, ci, i)) ?_ ?_
                    · skip
                      refine CW.region ?_
                      refine RW.move rfl rfl ?_
                      refine RW.move rfl rfl ?_
                      refine RW.ixAddr (q := k) sl33 rfl rfl rfl hA (by omega) (by omega) ?_
                      refine RW.fieldP fl38x1 rfl rfl ?_
                      refine RW.load1 sc3 rfl rfl (fun w' hw' => hw'.base_cell (hcell 1 _ rfl) (fun hm => hnf _ hm (by simp [block_add]))) ?_
                      refine RW.geq rfl rfl rfl ?_
                      refine RW.move rfl rfl ?_
                      -- mq: guard slot 102
                      refine RW.casesB 102 rfl (fun h4 => ?_) (fun h4 => ?_)
                      · skip
                        have h4p := of_decide_eq_true h4
                        refine RW.guardT rfl rfl h4 ?_
                        refine RW.move rfl rfl ?_
                        refine RW.guardT rfl rfl h4 ?_
                        refine RW.move rfl rfl ?_
                        refine RW.guardT rfl rfl h4 ?_
                        refine RW.ixAddr (q := k) sl33 rfl rfl rfl hA (by omega) (by omega) ?_
                        refine RW.guardT rfl rfl h4 ?_
                        refine RW.fieldP fl38x1 rfl rfl ?_
                        refine RW.guardT rfl rfl h4 ?_
                        refine RW.load1 sc3 rfl rfl (fun w' hw' => hw'.base_cell (hcell 1 _ rfl) (fun hm => hnf _ hm (by simp [block_add]))) ?_
                        refine RW.guardT rfl rfl h4 ?_
                        refine RW.leq rfl rfl rfl ?_
                        refine RW.pickB rfl rfl h4 rfl ?_
                        refine RW.assign rfl rfl ?_
                        refine RW.nil ?_
                        -- mq: joinend
                        refine EX.jn (Sub.cons (by rfl) (Sub.cons (by rfl) (Sub.cons (by rfl) (Sub.cons (by rfl) (Sub.cons (by rfl) (Sub.cons ?_ Sub.nil)))))) (fun _ h => h)
                        show some (Value.bool (decide (o.x ≤ 1000))) = _
                        rw [decide_eq_false (by omega)]
                      · skip
                        have h4p := of_decide_eq_false h4
                        refine RW.guardF rfl rfl rfl h4 ?_
                        refine RW.guardF rfl rfl rfl h4 ?_
                        refine RW.guardF rfl rfl rfl h4 ?_
                        refine RW.guardF rfl rfl rfl h4 ?_
                        refine RW.guardF rfl rfl rfl h4 ?_
                        refine RW.guardF rfl rfl rfl h4 ?_
                        refine RW.pickC rfl rfl h4 rfl ?_
                        refine RW.assign rfl rfl ?_
                        refine RW.nil ?_
                        -- mq: joinend
                        exact EX.jn (by repeat (first | exact Sub.nil | refine Sub.cons (by rfl) ?_)) (fun _ h => h)
                    · skip
                      refine EX.seq (CW.seq (CW.seq (CW.region ?_)))
                      refine RW.move rfl rfl ?_
                      refine RW.move rfl rfl ?_
                      refine RW.eqlI rfl rfl rfl ?_
                      refine RW.neqB Tryd.underlying4 rfl rfl rfl ?_
                      refine RW.move rfl rfl ?_
                      refine RW.guardT rfl rfl rfl ?_
                      refine RW.move rfl rfl ?_
                      refine RW.guardT rfl rfl rfl ?_
                      refine RW.not_ rfl rfl ?_
                      refine RW.guardT rfl rfl rfl ?_
                      refine RW.move rfl rfl ?_
                      refine RW.guardT rfl rfl rfl ?_
                      refine RW.move rfl rfl ?_
                      refine RW.guardT rfl rfl rfl ?_
                      refine RW.neqI rfl rfl rfl ?_
                      refine RW.guardT rfl rfl rfl ?_
                      refine RW.pickB rfl rfl rfl rfl ?_
                      refine RW.pickC rfl rfl rfl rfl ?_
                      refine RW.nil (EX.seq ?_)
                      -- mq: cond
                      refine CW.condF rfl (rfl) ?_
                      refine CW.skip (EX.seq (CW.seq (CW.region ?_)))
                      refine RW.move rfl rfl ?_
                      refine RW.nil (EX.seq ?_)
                      -- mq: cond
                      refine CW.condF rfl (rfl) ?_
                      refine CW.skip (EX.bkN ?_)
                      -- mq: joinend
                      exact EX.jnI (wi, Ai, ci, i) hok (by repeat (first | exact Sub.nil | refine Sub.cons (by rfl) ?_)) (fun w' hw' => hw')
                · skip
                  have hb2 : stepB b o = b := by unfold stepB; rw [if_neg h0, if_neg h1, if_neg h2, if_neg (fun h => h3 h.1)]
                  rw [hb2]
                  refine CW.skip (EX.bkN ?_)
                  -- mq: joinend
                  exact EX.jnI (wi, Ai, ci, i) hok (by repeat (first | exact Sub.nil | refine Sub.cons (by rfl) ?_)) (fun w' hw' => hw')
        · skip
          rintro ⟨wj, Aj, cj, j⟩ hokj
          have hjl := stepB_len hbl o
          have hjo := hokj.ok
          have hjx := hokj.ext
          have hjr := hokj.rd
          have hjf := hokj.fresh
          dsimp only at hjo hjx hjr hjf ⊢
          generalize stepB b o = b2 at *
          refine EX.seq (CW.seq ?_)
          -- mq: region
          refine CW.region ?_
          refine RW.move rfl rfl ?_
          refine RW.call rfl ca10 rfl (fun w' hw' => cols_n hjo (hw'.has Has.head)) ?_
          refine RW.move rfl rfl ?_
          refine RW.lenSl Tryd.underlying35 rfl rfl ?_
          refine RW.neqI rfl rfl rfl ?_
          refine RW.move rfl rfl ?_
          refine RW.guardT rfl rfl (by simp) ?_
          refine RW.move rfl rfl ?_
          refine RW.guardT rfl rfl (by simp) ?_
          refine RW.callK rfl ca20 rfl (fun w' hw' => list_n hjo rfl (hw'.has Has.head)) (fun w3 w4 A4 n4 c4 hw3 he34 hw4 hlt4 hrd4 => ?_)
          refine RW.guardT rfl rfl (by simp) ?_
          refine RW.move rfl rfl ?_
          refine RW.guardT rfl rfl (by simp) ?_
          refine RW.callK rfl ca21 rfl (fun w' hw' => refList_c w' _ Aj _ cj b2 ((hokj.move hw3 he34).rd.ext hw'.ext (fun k hk => hk)) (by omega)) (fun w5 w6 A6 n6 c6 hw5 he56 hw6 hlt6 hrd6 => ?_)
          refine RW.guardT rfl rfl (by simp) ?_
          refine RW.call (v := .bool true) rfl ca19 rfl (fun w' hw' => Ints_c w' _ _ _ _ _ _ _ _ (listB b2) (((hrd4.ext hw5.ext (fun k hk hk2 => by have := hlt4 k hk2; omega)).ext he56 (by simp)).ext hw'.ext (fun k hk hk2 => by have := hlt4 k hk2; omega)) (hrd6.ext hw'.ext (fun k hk hk2 => by have := hlt6 k hk2; omega)) (by have := hrd4.len; have := listTo_len b2 b2.length; unfold listB at *; unfold listTo at this; omega)) ?_
          refine RW.guardT rfl rfl (by simp) ?_
          refine RW.not_ rfl rfl ?_
          refine RW.pickC rfl rfl (by simp) rfl ?_
          refine RW.nil (EX.seq ?_)
          -- mq: cond
          refine CW.condF rfl (rfl) ?_
          refine CW.skip (EX.bkN (EX.seq (CW.region ?_)))
          refine RW.move rfl rfl ?_
          refine RW.add rfl rfl rfl (wrap64 (by omega) (by omega)) ?_
          refine RW.assign rfl rfl ?_
          refine RW.nil ?_
          -- mq: loopend
          refine EX.lpN ((w6, Aj, cj, j), k + 1) ⟨by dsimp only; omega, by dsimp only; rw [hsn]; exact (hokj.move hw3 he34).move hw5 he56⟩ (by dsimp only; omega) (Sub.cons (by rfl) (Sub.cons (by rfl) (Sub.cons (by dsimp only; rw [hsn]; rfl) (Sub.cons (by rfl) Sub.nil)))) (fun w' hw' => ?_)
          dsimp only [HS]
          rw [hsn]
          exact hw'
      · skip
        refine CW.exit (EX.seqE (EX.lpE (EX.bkE (EX.seq (CW.seq (CW.region ?_))))))
        refine RW.assign rfl rfl ?_
        refine RW.nil (EX.seq (CW.ret ?_))
        refine EX.fin1 Tryd.results4 rfl (fun wz hw => ?_)
        -- mq: done
        exact ⟨rfl, (hw.unbase hxi (fun k hk hlt => by have := hfr k hk; omega) : SH w [] _ _).ext⟩
end Go.Proofs.YthfbdbahggklnaaDoor.Mq
