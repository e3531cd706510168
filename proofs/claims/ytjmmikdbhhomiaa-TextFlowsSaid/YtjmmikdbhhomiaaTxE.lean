/- text: walk -/
import Derived.Test.YtjmmikdbhhomiaaTxD
namespace Go.Proofs.Ytjmmikdbhhomiaa.Mq
open Go Go.RowKit Go.Proofs

theorem lines_o (w : World) (F : Nat → Prop) (A : Option Addr) (n c : Nat) (rs : List RowV) (f : Nat → List (Int × Int)) (hr : Rd ERow w F A n c rs) (hn : n ≤ 100000)
    (h0 : f 0 = []) (hf : ∀ k r, rs[k]? = some r → f (k + 1) = linesStep (f k) k r.cont) (hfl : ∀ k, k ≤ n → (f k).length ≤ k) :
    Calls Try.prog 6 [.slice A n c].toArray w (fun e w' => ∃ v, e = .returned v ∧ Ext [] w w' ∧ w'.ownsRow 0 28 2 v (f n).length (EPair.all (f n)) ∧ ∀ g, v.ownBlock = some g → w.heap.size ≤ g) := by
  refine calls (n := 38) Try.func6 rfl Try.ntmps6 rfl ?_
  refine CW.sub (H' := SH w [] []) ?_ (Sub.refl _) (fun x hx => SH.start' _ _ hx)
  refine CW.ownNil 28 2 ?_
  refine CW.seq (CW.region ?_)
  refine RW.assign rfl rfl ?_
  refine RW.nil (EX.seq (CW.seq (CW.region ?_)))
  refine RW.assign rfl rfl ?_
  refine RW.nil (EX.seq (CW.seq (CW.seq (CW.region ?_))))
  refine RW.move rfl rfl ?_
  refine RW.lenSl Try.underlying22 rfl rfl ?_
  refine RW.move rfl rfl ?_
  refine RW.nil (EX.seq (CW.block ?_))
  -- mq: loop
  refine CW.loop (ι := Nat × Value × List (Int × Int)) (fun i => [(3, i.2.1), (7, .slice A n c), (8, .int .i64 (n : Int)), (9, .int .i64 (i.1 : Int))]) (fun i => SH w [] [own 28 2 i.2.1 i.2.2.length (EPair.all i.2.2)]) (fun i => i.1 ≤ n ∧ i.2.2 = f i.1 ∧ ∀ g, i.2.1.ownBlock = some g → w.heap.size ≤ g) (fun i => n - i.1) ?_ ?_
  · exact fun w hw => ⟨(0, .slice none 0 0, []), ⟨Nat.zero_le _, h0.symm, by simp [Value.ownBlock]⟩, (by repeat (first | exact Sub.nil | refine Sub.cons rfl ?_)), hw⟩
  · rintro ⟨k, v, L⟩ ⟨hk, hL, hv0⟩
    dsimp only at hk hL hv0 ⊢
    refine CW.seq (CW.region ?_)
    refine RW.lss rfl rfl rfl ?_
    refine RW.nil (EX.seq (CW.seq ?_))
    -- mq: cond
    first | refine CW.condD rfl (fun hlt => ?_) (fun hlt => ?_) | refine CW.cond rfl (fun hlt => ?_) (fun hlt => ?_)
    · skip
      have hlt' : k < n := by omega
      obtain ⟨r, hrk⟩ : ∃ r, rs[k]? = some r := ⟨rs[k]'(by rw [hr.len]; exact hlt'), List.getElem?_eq_getElem _⟩
      obtain ⟨ad, hA, hF, hcell⟩ := hr.cells (by omega)
      have hLl : L.length ≤ k := hL ▸ hfl k hk
      refine CW.formOwn (v := v) Has.head (fun Ao co hv hcap hmax hlen hg => ?_)
      subst hv
      refine CW.skip (EX.seq (CW.seq (CW.block (CW.seq (CW.region ?_)))))
      refine RW.move rfl rfl ?_
      refine RW.ixAddr sl22 rfl rfl rfl (by first | rfl | assumption) (by rfl) (by omega) ?_
      refine RW.loadA ag31 rfl rfl ((ERow.len r)) (fun w' hw' j u hj => hw'.base_cell (hcell k r j u hrk hj) (by simp)) ?_
      refine RW.allocA ag31 rfl (fun g5 hg5 hf5 => ?_)
      refine RW.assign rfl rfl ?_
      refine RW.storeA ag31 rfl rfl (by first | exact Upd.head | exact Upd.tail Upd.head | exact Upd.tail (Upd.tail Upd.head) | exact Upd.tail (Upd.tail (Upd.tail Upd.head)) | exact Upd.tail (Upd.tail (Upd.tail (Upd.tail Upd.head))) | exact Upd.tail (Upd.tail (Upd.tail (Upd.tail (Upd.tail Upd.head)))) | exact Upd.tail (Upd.tail (Upd.tail (Upd.tail (Upd.tail (Upd.tail Upd.head)))))) (by first | rfl | exact Enc.len _ _) (by repeat (first | exact Ones.nil | exact Enc.ones _ _ | refine Ones.cons rfl ?_)) (by first | exact Nat.le_of_ble_eq_true rfl | (simp only [Enc.len]; decide)) ?_
      refine RW.nil (EX.seq (CW.seq (CW.seq (CW.region ?_))))
      refine RW.move rfl rfl ?_
      refine RW.lenSl Try.underlying26 rfl rfl ?_
      refine RW.assign rfl rfl ?_
      refine RW.nil (EX.seq (CW.seq (CW.region ?_)))
      refine RW.move rfl rfl ?_
      refine RW.gtr rfl rfl rfl ?_
      refine RW.move rfl rfl ?_
      -- mq: guard slot 18
      have Hstep := hf k r hrk
      refine RW.casesB 18 rfl (fun hb => ?_) (fun hb => ?_)
      · skip
        have hbp := of_decide_eq_true hb
        refine RW.guardT rfl rfl hb ?_
        refine RW.fieldB fl31x1 rfl rfl ?_
        refine RW.guardT rfl rfl hb ?_
        refine RW.loadB1 sc4 rfl rfl (by first | exact Has.head | exact Has.tail Has.head | exact Has.tail (Has.tail Has.head) | exact Has.tail (Has.tail (Has.tail Has.head)) | exact Has.tail (Has.tail (Has.tail (Has.tail Has.head))) | exact Has.tail (Has.tail (Has.tail (Has.tail (Has.tail Has.head)))) | exact Has.tail (Has.tail (Has.tail (Has.tail (Has.tail (Has.tail Has.head)))))) rfl ?_
        refine RW.pickB rfl rfl hb rfl ?_
        refine RW.nil (EX.seq ?_)
        -- mq: cond
        first | refine CW.condD rfl (fun hc => ?_) (fun hc => ?_) | refine CW.cond rfl (fun hc => ?_) (fun hc => ?_)
        · skip
          obtain ⟨g, rfl⟩ := hg (by omega)
          obtain ⟨p, hp⟩ : ∃ p, L[L.length - 1]? = some p := ⟨L[L.length - 1]'(by omega), List.getElem?_eq_getElem _⟩
          have hset := EPair.all_set (j := 1) (a' := (p.1, (k : Int) + 1)) (v := .int .i64 ((k : Int) + 1)) hp (by decide) rfl
          have hst : linesStep L k r.cont = L.set (L.length - 1) (p.1, (k : Int) + 1) := by
            rw [List.getElem?_eq_getElem (by omega)] at hp
            simp only [Option.some.injEq] at hp
            have hne : L ≠ [] := fun e => by subst e; simp at hbp
            have hlast : L.getLast? = some p := by rw [List.getLast?_eq_some_getLast hne, List.getLast_eq_getElem, hp]
            simp only [linesStep, hlast, hc, if_true]
            rw [List.set_eq_take_append_cons_drop, if_pos (by omega), List.dropLast_eq_take, show L.length - 1 + 1 = L.length by omega, List.drop_length]
          refine CW.seq (CW.region ?_)
          refine RW.move rfl rfl ?_
          refine RW.move rfl rfl ?_
          refine RW.sub_ rfl rfl rfl (wrap64 (by omega) (by omega)) ?_
          refine RW.move rfl rfl ?_
          refine RW.add rfl rfl rfl (wrap64 (by omega) (by omega)) ?_
          refine RW.ixAddr (q := (L.length - 1)) sl26 rfl rfl rfl (by first | rfl | assumption) (by omega) (by omega) ?_
          refine RW.ixArr (q := 1) Try.underlying28 ar28 rfl rfl rfl (by omega) (by omega) ?_
          -- mq: op 7: ('Op.store', '3', ('Operand.tmp', '28'), ('Operand.tmp', '26')) -> slot None ("flow.go:19")
          refine RW.storeOwn1 (o := (L.length - 1) * 2 + 1) sc3 rfl rfl (by exact Upd.tail Upd.head) (by simp [Addr.add_lit]) rfl (by rw [EPair.all_length]; show _ < L.length * 2; omega) ?_
          refine RW.nil (EX.seq (CW.exit (EX.seqE (EX.bkE (EX.seq (CW.region ?_))))))
          refine RW.add rfl rfl rfl (wrap64 (by omega) (by omega)) ?_
          refine RW.move rfl rfl ?_
          refine RW.nil ?_
          -- mq: loopend
          refine EX.lpN (k + 1, _, L.set (L.length - 1) (p.1, (k : Int) + 1)) ⟨by omega, by rw [Hstep, ← hL, hst], hv0⟩ (by omega) (by repeat (first | exact Sub.nil | refine Sub.cons (by rfl) ?_)) (fun w' hw' => ?_)
          have := hw'.rem Rem.head
          rw [show (L.length - 1) * 2 + 1 = (L.length - 1) * EPair.sz + 1 from rfl, hset] at this
          simpa using this
        · skip
          have hst : linesStep L k r.cont = L ++ [((k : Int), (k : Int) + 1)] := by
            have hne : L ≠ [] := fun e => by subst e; simp at hbp
            simp only [linesStep, List.getLast?_eq_some_getLast hne, hc]
            rfl
          refine CW.skip (EX.seq (CW.region ?_))
          refine RW.move rfl rfl ?_
          refine RW.move rfl rfl ?_
          refine RW.move rfl rfl ?_
          refine RW.add rfl rfl rfl (wrap64 (by omega) (by omega)) ?_
          refine RW.buildR ba28 rfl rfl rfl ?_
          refine RW.buildSlc sl26 rfl rfl rfl rfl (fun g34 hg34 hf34 => ?_)
          refine RW.append1 sl26 rfl rfl rfl (by first | exact Rem.head | exact Rem.tail Rem.head | exact Rem.tail (Rem.tail Rem.head) | exact Rem.tail (Rem.tail (Rem.tail Rem.head)) | exact Rem.tail (Rem.tail (Rem.tail (Rem.tail Rem.head))) | exact Rem.tail (Rem.tail (Rem.tail (Rem.tail (Rem.tail Rem.head)))) | exact Rem.tail (Rem.tail (Rem.tail (Rem.tail (Rem.tail (Rem.tail Rem.head)))))) (fun _ => by first | exact Upd.head | exact Upd.tail Upd.head | exact Upd.tail (Upd.tail Upd.head) | exact Upd.tail (Upd.tail (Upd.tail Upd.head)) | exact Upd.tail (Upd.tail (Upd.tail (Upd.tail Upd.head))) | exact Upd.tail (Upd.tail (Upd.tail (Upd.tail (Upd.tail Upd.head)))) | exact Upd.tail (Upd.tail (Upd.tail (Upd.tail (Upd.tail (Upd.tail Upd.head)))))) rfl (by repeat (first | exact Ones.nil | exact Enc.ones _ _ | refine Ones.cons rfl ?_)) (by simp only [maxLen]; omega) (by omega) (fun v35 hv35 => ?_)
          refine RW.assign rfl rfl ?_
          refine RW.nil (EX.bkN (EX.seq (CW.region ?_)))
          refine RW.add rfl rfl rfl (wrap64 (by omega) (by omega)) ?_
          refine RW.move rfl rfl ?_
          refine RW.nil ?_
          -- mq: loopend
          refine EX.lpN (k + 1, v35, L ++ [((k : Int), (k : Int) + 1)]) ⟨by omega, by rw [Hstep, ← hL, hst], fun g hg => by
            rcases hv35 g hg with h | h
            · exact hv0 g h
            · exact h.1⟩ (by omega) (by repeat (first | exact Sub.nil | refine Sub.cons (by rfl) ?_)) (fun w' hw' => ?_)
          have := hw'.rem Rem.head
          rw [List.length_append, Enc.all_snoc]
          exact this
      · skip
        have hbp := of_decide_eq_false hb
        refine RW.guardF rfl rfl rfl hb ?_
        refine RW.guardF rfl rfl rfl hb ?_
        refine RW.pickC rfl rfl hb rfl ?_
        refine RW.nil (EX.seq ?_)
        -- mq: cond
        first | refine CW.condD rfl (fun hc => ?_) (fun hc => ?_) | refine CW.cond rfl (fun hc => ?_) (fun hc => ?_)
        · skip
          exact absurd hc (by decide)
        · skip
          have hst : linesStep L k r.cont = L ++ [((k : Int), (k : Int) + 1)] := by
            have hne : L = [] := List.eq_nil_of_length_eq_zero (by omega)
            subst hne
            rfl
          refine CW.skip (EX.seq (CW.region ?_))
          refine RW.move rfl rfl ?_
          refine RW.move rfl rfl ?_
          refine RW.move rfl rfl ?_
          refine RW.add rfl rfl rfl (wrap64 (by omega) (by omega)) ?_
          refine RW.buildR ba28 rfl rfl rfl ?_
          refine RW.buildSlc sl26 rfl rfl rfl rfl (fun g34 hg34 hf34 => ?_)
          refine RW.append1 sl26 rfl rfl rfl (by first | exact Rem.head | exact Rem.tail Rem.head | exact Rem.tail (Rem.tail Rem.head) | exact Rem.tail (Rem.tail (Rem.tail Rem.head)) | exact Rem.tail (Rem.tail (Rem.tail (Rem.tail Rem.head))) | exact Rem.tail (Rem.tail (Rem.tail (Rem.tail (Rem.tail Rem.head)))) | exact Rem.tail (Rem.tail (Rem.tail (Rem.tail (Rem.tail (Rem.tail Rem.head)))))) (fun _ => by first | exact Upd.head | exact Upd.tail Upd.head | exact Upd.tail (Upd.tail Upd.head) | exact Upd.tail (Upd.tail (Upd.tail Upd.head)) | exact Upd.tail (Upd.tail (Upd.tail (Upd.tail Upd.head))) | exact Upd.tail (Upd.tail (Upd.tail (Upd.tail (Upd.tail Upd.head)))) | exact Upd.tail (Upd.tail (Upd.tail (Upd.tail (Upd.tail (Upd.tail Upd.head)))))) rfl (by repeat (first | exact Ones.nil | exact Enc.ones _ _ | refine Ones.cons rfl ?_)) (by simp only [maxLen]; omega) (by omega) (fun v35 hv35 => ?_)
          refine RW.assign rfl rfl ?_
          refine RW.nil (EX.bkN (EX.seq (CW.region ?_)))
          refine RW.add rfl rfl rfl (wrap64 (by omega) (by omega)) ?_
          refine RW.move rfl rfl ?_
          refine RW.nil ?_
          -- mq: loopend
          refine EX.lpN (k + 1, v35, L ++ [((k : Int), (k : Int) + 1)]) ⟨by omega, by rw [Hstep, ← hL, hst], fun g hg => by
            rcases hv35 g hg with h | h
            · exact hv0 g h
            · exact h.1⟩ (by omega) (by repeat (first | exact Sub.nil | refine Sub.cons (by rfl) ?_)) (fun w' hw' => ?_)
          have := hw'.rem Rem.head
          rw [List.length_append, Enc.all_snoc]
          exact this
    · skip
      refine CW.exit (EX.seqE (EX.lpE (EX.bkE (EX.seq (CW.seq (CW.region ?_))))))
      refine RW.move rfl rfl ?_
      refine RW.assign rfl rfl ?_
      refine RW.nil (EX.seq (CW.ret ?_))
      refine EX.fin1 Try.results6 rfl (fun wz hw => ?_)
      -- mq: done
      have hkn : k = n := by omega
      subst hkn
      rw [← hL]
      exact ⟨_, rfl, hw.ext, hw.has Has.head, hv0⟩
theorem Lines_o (w : World) (F : Nat → Prop) (A : Option Addr) (n c : Nat) (rows : List RowL) (hr : RdRows w F A n c rows) (hn : n ≤ 100000) :
    Calls Try.prog 6 [.slice A n c].toArray w (fun e w' => ∃ v, e = .returned v ∧ Ext [] w w' ∧ w'.ownsRow 0 28 2 v (linesL rows n).length (EPair.all (linesL rows n)) ∧ ∀ g, v.ownBlock = some g → w.heap.size ≤ g) := by
  obtain ⟨rs, h1, h2, _⟩ := hr.prf
  refine lines_o w F A n c rs (linesL rows) h1 hn rfl (fun k r hk => ?_) (fun k _ => linesL_length rows k)
  have : contAt rows k = r.cont := by
    have := congrArg (fun l => l[k]?) h2
    simp only [List.getElem?_map, hk, Option.map_some] at this
    unfold contAt
    rw [← this]
    rfl
  rw [linesL, this]
/-- a row of pairs, not the builder's and none of bytes -/
def RowK (b : Nat) (Ao : Option Addr) (L : List (Int × Int)) (w : World) : Prop :=
  ∀ i p, L[i]? = some p → ∃ g cur, Ao = some ⟨g, 0, none⟩ ∧ g ≠ b ∧ w.heap[g]? = some (.cells cur 28 (0, 0)) ∧ ∀ j u, (EPair.enc p)[j]? = some u → cur[i * 2 + j]? = some u
theorem RowK.kb {b : Nat} {Ao : Option Addr} {L : List (Int × Int)} {w w' : World} (h : RowK b Ao L w) (hk : KB b w w') : RowK b Ao L w' := fun i p hp => by
  obtain ⟨g, cur, h1, h2, h3, h4⟩ := h i p hp
  exact ⟨g, cur, h1, h2, hk.2 g _ h3 (by simpa using h2) (fun c fz e => by cases e), h4⟩
theorem RowK.cell {b : Nat} {Ao : Option Addr} {L : List (Int × Int)} {w : World} (h : RowK b Ao L w) {i : Nat} {p : Int × Int} (hp : L[i]? = some p) :
    ∃ ad, Ao = some ad ∧ ∀ j u, (EPair.enc p)[j]? = some u → w.cell? ((ad.add (i * 2)).add j) = some u := by
  obtain ⟨g, cur, h1, _, h3, h4⟩ := h i p hp
  refine ⟨_, h1, fun j u hu => ?_⟩
  rw [add_add, Addr.add_lit, cell_of_row w g _ cur _ (0, 0) h3]
  have := h4 j u hu
  simpa using this
theorem RowK.of_own {b : Nat} {v : Value} {L : List (Int × Int)} {w : World} (h : w.ownsRow 0 28 2 v L.length (EPair.all L)) (hb : ∀ g, v.ownBlock = some g → g ≠ b) : ∃ Ao c, v = .slice Ao L.length c ∧ RowK b Ao L w := by
  rcases h.2 with ⟨hv, h0⟩ | ⟨g, cap, cur, hv, _, hg, _, _, _, htake⟩
  · subst hv
    refine ⟨none, 0, by rw [h0], fun i p hp => ?_⟩
    rw [List.eq_nil_of_length_eq_zero h0] at hp
    cases hp
  · subst hv
    refine ⟨_, _, rfl, fun i p hp => ⟨g, cur, rfl, hb g rfl, hg, fun j u hu => ?_⟩⟩
    have hlt := (List.getElem?_eq_some_iff.1 hp).1
    have hj : j < 2 := (List.getElem?_eq_some_iff.1 hu).1
    have := EPair.all_get hp hu
    rw [← htake, List.getElem?_take, if_pos (by show i * 2 + j < _; omega), show i * EPair.sz + j = i * 2 + j from rfl] at this
    simpa using this
theorem SH.at1 {b : Nat} {w1 w' : World} {cs cs' : List Chunk} {p : Addr} {v : Value} (h : SH w1 (feet cs) cs' w') (h1 : ∀ c ∈ cs, c.pred w1) (hs : ∀ c ∈ cs, c ∈ cs') (hb : Bx b cs) (hv : w1.cell? p = some v) : w'.cell? p = some v := by
  rw [(h.same h1 hs hb).cell (World.block_lt_of_cell? _ _ hv) (by simp)]; exact hv
theorem flat_take_le {α : Type} (f : α → List UInt8) {L : List α} {i : Nat} : ((L.take i).flatMap f).length ≤ (L.flatMap f).length := by
  conv => rhs; rw [← List.take_append_drop i L, List.flatMap_append, List.length_append]
  omega
abbrev wkCs (g5 g6 g8 : Nat) (pv : List Value) (fr to : PosV) : List Chunk := [blk g8 pv 81, blk g6 to.enc 44, blk g5 fr.enc 44]
def WkH (wB w : World) (b g5 g6 g8 : Nat) (pv : List Value) (fr to : PosV) (Ao : Option Addr) (L : List (Int × Int)) (s : List UInt8) (w' : World) : Prop :=
  BlK wB b s w' ∧ KB b w w' ∧ SH w' (feet (wkCs g5 g6 g8 pv fr to)) (wkCs g5 g6 g8 pv fr to) w' ∧ RowK b Ao L w'
theorem partT_eq {rows : List RowL} {fr to : PosV} {s e : Int} {l0 l1 : Nat} (h0 : max s fr.row = (l0 : Int)) (h1 : (l0 : Int) < e) (h2 : (l0 : Int) ≤ to.row) (h3 : (l1 : Int) = if to.row < rows.length ∧ to.row + 1 < e then to.row + 1 else e) :
    partT rows fr to (s, e) = linT rows fr to l0 l1 := by
  unfold partT linT
  dsimp only
  rw [h0, if_pos ⟨h1, h2⟩, ← h3]
  rfl
theorem partT_no {rows : List RowL} {fr to : PosV} {s e : Int} (h : ¬ (max s fr.row < e ∧ max s fr.row ≤ to.row)) : partT rows fr to (s, e) = [] := if_neg h
theorem walk_c (wB : World) (F : Nat → Prop) (A : Option Addr) (n c : Nat) (rows : List RowL) (hr : RdRows wB F A n c rows) (fr to : PosV) (b : Nat) (hn : n ≤ 100000) (hfr : 0 ≤ fr.row) (hfr2 : fr.row ≤ 1000000) (hto : 0 ≤ to.col) (hto2 : to.row ≤ 1000000)
    (hmore : ∀ row ∈ rows, ∀ x ∈ row.1, x.more.length ≤ 1000000) (hlen : (ofF rows fr to).length ≤ 140737488355328) (w : World) (hbw : BlK wB b [] w) :
    Calls Try.prog 22 [.slice A n c, .agg fr.enc.toArray, .agg to.enc.toArray, .func (.func 23) #[] #[.pointer (some ⟨b, 0, none⟩)]].toArray w (fun e w' => ∃ v, e = .returned v ∧ BlK wB b (ofF rows fr to) w' ∧ KB b w w') := by
  have hl := hr.len
  have hblt := hbw.lt
  have hwB := hbw.1.size
  have hff : fromF fr = fr := by unfold fromF; rw [if_neg (by omega)]
  unfold ofF at hlen ⊢
  rw [hff, hl] at hlen ⊢
  refine calls (n := 70) Try.func22 rfl Try.ntmps22 rfl ?_
  refine CW.sub (H' := SH w [] []) ?_ (Sub.refl _) (fun x hx => SH.start' _ _ hx)
  refine CW.seq (CW.region ?_)
  refine RW.boxA rfl rfl (fun g5 hg5 hf5 => ?_)
  refine RW.boxA rfl rfl (fun g6 hg6 hf6 => ?_)
  refine RW.nil (EX.seq (CW.seq (CW.seq ?_)))
  -- mq: region
  refine CW.region ?_
  refine RW.fieldB fl44x0 rfl rfl ?_
  refine RW.loadB1 sc3 rfl rfl (by first | exact Has.head | exact Has.tail Has.head | exact Has.tail (Has.tail Has.head) | exact Has.tail (Has.tail (Has.tail Has.head)) | exact Has.tail (Has.tail (Has.tail (Has.tail Has.head))) | exact Has.tail (Has.tail (Has.tail (Has.tail (Has.tail Has.head)))) | exact Has.tail (Has.tail (Has.tail (Has.tail (Has.tail (Has.tail Has.head)))))) rfl ?_
  refine RW.lss rfl rfl rfl ?_
  refine RW.nil (EX.seq ?_)
  -- mq: cond
  first | refine CW.condD rfl (fun hneg => ?_) (fun hneg => ?_) | refine CW.cond rfl (fun hneg => ?_) (fun hneg => ?_)
  · skip
    exact absurd hneg (by omega)
  · skip
    refine CW.skip (EX.seq (CW.seq (CW.seq ?_)))
    -- mq: region
    refine CW.region ?_
    refine RW.loadBA ag44 rfl rfl (by first | exact Has.head | exact Has.tail Has.head | exact Has.tail (Has.tail Has.head) | exact Has.tail (Has.tail (Has.tail Has.head)) | exact Has.tail (Has.tail (Has.tail (Has.tail Has.head))) | exact Has.tail (Has.tail (Has.tail (Has.tail (Has.tail Has.head)))) | exact Has.tail (Has.tail (Has.tail (Has.tail (Has.tail (Has.tail Has.head)))))) rfl rfl ?_
    refine RW.loadBA ag44 rfl rfl (by first | exact Has.head | exact Has.tail Has.head | exact Has.tail (Has.tail Has.head) | exact Has.tail (Has.tail (Has.tail Has.head)) | exact Has.tail (Has.tail (Has.tail (Has.tail Has.head))) | exact Has.tail (Has.tail (Has.tail (Has.tail (Has.tail Has.head)))) | exact Has.tail (Has.tail (Has.tail (Has.tail (Has.tail (Has.tail Has.head)))))) rfl rfl ?_
    -- mq: at
    refine RW.call rfl ca39 rfl (fun w' _ => Less_c w' fr to) ?_
    refine RW.not_ rfl rfl ?_
    refine RW.nil (EX.seq ?_)
    -- mq: cond
    first | refine CW.condD rfl (fun hle => ?_) (fun hle => ?_) | refine CW.cond rfl (fun hle => ?_) (fun hle => ?_)
    · skip
      refine CW.ret (EX.seqR ?_)
      refine EX.fin0 Try.results22 (fun wz hw => ?_)
      -- mq: done
      rw [if_neg (fun e => by rw [e] at hle; cases hle)]
      exact ⟨_, rfl, hbw.ext hw.ext, KB.of_ext hw.ext⟩
    · skip
      have hle' : lessP fr to = true := by rw [Bool.not_eq_false'] at hle; exact hle
      rw [if_pos hle'] at hlen ⊢
      refine CW.skip (EX.seq (CW.seq (CW.region ?_)))
      refine RW.move rfl rfl ?_
      refine RW.loadBA ag44 rfl rfl (by first | exact Has.head | exact Has.tail Has.head | exact Has.tail (Has.tail Has.head) | exact Has.tail (Has.tail (Has.tail Has.head)) | exact Has.tail (Has.tail (Has.tail (Has.tail Has.head))) | exact Has.tail (Has.tail (Has.tail (Has.tail (Has.tail Has.head)))) | exact Has.tail (Has.tail (Has.tail (Has.tail (Has.tail (Has.tail Has.head)))))) rfl rfl ?_
      refine RW.loadBA ag44 rfl rfl (by first | exact Has.head | exact Has.tail Has.head | exact Has.tail (Has.tail Has.head) | exact Has.tail (Has.tail (Has.tail Has.head)) | exact Has.tail (Has.tail (Has.tail (Has.tail Has.head))) | exact Has.tail (Has.tail (Has.tail (Has.tail (Has.tail Has.head)))) | exact Has.tail (Has.tail (Has.tail (Has.tail (Has.tail (Has.tail Has.head)))))) rfl rfl ?_
      refine RW.move rfl rfl ?_
      refine RW.buildS bu81 rfl rfl rfl ?_
      refine RW.allocA ag81 rfl (fun g8 hg8 hf8 => ?_)
      refine RW.storeA ag81 rfl rfl (by first | exact Upd.head | exact Upd.tail Upd.head | exact Upd.tail (Upd.tail Upd.head) | exact Upd.tail (Upd.tail (Upd.tail Upd.head)) | exact Upd.tail (Upd.tail (Upd.tail (Upd.tail Upd.head))) | exact Upd.tail (Upd.tail (Upd.tail (Upd.tail (Upd.tail Upd.head)))) | exact Upd.tail (Upd.tail (Upd.tail (Upd.tail (Upd.tail (Upd.tail Upd.head)))))) (by first | rfl | exact Enc.len _ _) (by repeat (first | exact Ones.nil | exact Enc.ones _ _ | refine Ones.cons rfl ?_)) (by first | exact Nat.le_of_ble_eq_true rfl | (simp only [Enc.len]; decide)) ?_
      refine RW.nil (EX.seq (CW.seq ?_))
      -- mq: region
      have hx : Bx b (wkCs g5 g6 g8 (partV A n c fr to b) fr to) := Bx.cons (by omega) (by decide) (Bx.cons (by omega) (by decide) (Bx.cons (by omega) (by decide) (Bx.nil b)))
      refine CW.region ?_
      refine RW.move rfl rfl ?_
      -- mq: at
      refine RW.callW (first := []) (cap := []) (fun w6 v w7 => Ext [] w6 w7 ∧ w7.ownsRow 0 28 2 v (linesL rows n).length (EPair.all (linesL rows n)) ∧ ∀ g, v.ownBlock = some g → w6.heap.size ≤ g) rfl rfl ca6 rfl (fun w' hw' => Lines_o w' F A n c rows (hr.ext (hbw.1.trans0 hw'.ext) (by simp)) hn) (fun w6 v w7 hw6 ⟨he7, ho7, hf7⟩ => ?_)
      obtain ⟨Ao, cc, rfl, hrk⟩ := RowK.of_own (b := b) ho7 (fun g hg => by have := hf7 g hg; have := hw6.ext.size; omega)
      refine RW.sub (H' := SH w7 (feet (wkCs g5 g6 g8 (partV A n c fr to b) fr to)) (wkCs g5 g6 g8 (partV A n c fr to b) fr to)) ?_ (Sub.refl _) (fun x hx => by subst hx; exact (hw6.keep he7).rebase)
      have hch := linesL_chain rows n
      have hLn := linesL_length rows n
      obtain ⟨L, hL⟩ : ∃ L, L = linesL rows n := ⟨_, rfl⟩
      rw [← hL] at hlen hrk hch hLn ⊢
      have hx67 : Ext [] w w7 := hw6.ext.trans0 he7
      refine RW.lenSl Try.underlying26 rfl rfl ?_
      refine RW.move rfl rfl ?_
      refine RW.nil (EX.seq (CW.block ?_))
      -- mq: loop
      refine CW.loop (ι := Nat) (fun i => [(27, .int .i64 (i : Int)), (0, .slice A n c), (5, .pointer (some ⟨g5, 0, none⟩)), (6, .pointer (some ⟨g6, 0, none⟩)), (8, .pointer (some ⟨g8, 0, none⟩)), (25, .slice Ao L.length cc), (26, .int .i64 (L.length : Int))]) (fun i => WkH wB w b g5 g6 g8 (partV A n c fr to b) fr to Ao L ((L.take i).flatMap (partT rows fr to))) (fun i => i ≤ L.length) (fun i => L.length - i) ?_ ?_
      · exact fun w' hw' => ⟨0, Nat.zero_le _, (by repeat (first | exact Sub.nil | refine Sub.cons (by rfl) ?_)), (by
          have hs := hw'.same (hw6.keep he7).all (fun _ h => h) hx
          exact ⟨(hbw.ext hx67).ext hs, KB.of_ext (hx67.trans0 hs), hw'.rebase, hrk.kb (KB.of_ext hs)⟩)⟩
      · intro i hi
        refine CW.fixH (fun w1 hb1 => ⟨_, _, hb1.2.2.1, ?_⟩)
        refine CW.seq (CW.region ?_)
        refine RW.lss rfl rfl rfl ?_
        refine RW.nil (EX.seq (CW.seq ?_))
        -- mq: cond
        first | refine CW.condD rfl (fun hlt => ?_) (fun hlt => ?_) | refine CW.cond rfl (fun hlt => ?_) (fun hlt => ?_)
        · skip
          obtain ⟨p, hp⟩ : ∃ p, L[i]? = some p := ⟨L[i]'(by omega), List.getElem?_eq_getElem _⟩
          obtain ⟨sN, eN, rfl, hse, hen⟩ := lines_in L 0 hch p (List.mem_of_getElem? hp)
          obtain ⟨ad, hA, hcell⟩ := hb1.2.2.2.cell hp
          have hft : (L.take (i + 1)).flatMap (partT rows fr to) = (L.take i).flatMap (partT rows fr to) ++ partT rows fr to ((sN : Int), (eN : Int)) := by rw [take_snoc' hp, List.flatMap_append]; simp
          have hlt2 : ((L.take i).flatMap (partT rows fr to)).length + (partT rows fr to ((sN : Int), (eN : Int))).length ≤ 140737488355328 := by
            have := flat_take_le (partT rows fr to) (L := L) (i := i + 1)
            rw [hft, List.length_append] at this
            omega
          refine CW.skip (EX.seq (CW.seq (CW.block (CW.seq (CW.region ?_)))))
          refine RW.ixAddr (q := i) sl26 rfl rfl rfl (by first | rfl | assumption) (by omega) (by omega) ?_
          refine RW.loadA ag28 rfl rfl (rfl) (fun w' hw' j u hj => hw'.at1 hb1.2.2.1.all (fun _ h => h) hx (hcell j u hj)) ?_
          refine RW.allocA ag28 rfl (fun g10 hg10 hf10 => ?_)
          refine RW.storeA ag28 rfl rfl (by first | exact Upd.head | exact Upd.tail Upd.head | exact Upd.tail (Upd.tail Upd.head) | exact Upd.tail (Upd.tail (Upd.tail Upd.head)) | exact Upd.tail (Upd.tail (Upd.tail (Upd.tail Upd.head))) | exact Upd.tail (Upd.tail (Upd.tail (Upd.tail (Upd.tail Upd.head)))) | exact Upd.tail (Upd.tail (Upd.tail (Upd.tail (Upd.tail (Upd.tail Upd.head)))))) (by first | rfl | exact Enc.len _ _) (by repeat (first | exact Ones.nil | exact Enc.ones _ _ | refine Ones.cons rfl ?_)) (by first | exact Nat.le_of_ble_eq_true rfl | (simp only [Enc.len]; decide)) ?_
          refine RW.nil (EX.seq (CW.seq (CW.region ?_)))
          refine RW.ixArrB (q := 0) Try.underlying28 ar28 rfl rfl rfl (by rfl) (by omega) ?_
          refine RW.loadB1 sc3 rfl rfl (by first | exact Has.head | exact Has.tail Has.head | exact Has.tail (Has.tail Has.head) | exact Has.tail (Has.tail (Has.tail Has.head)) | exact Has.tail (Has.tail (Has.tail (Has.tail Has.head))) | exact Has.tail (Has.tail (Has.tail (Has.tail (Has.tail Has.head)))) | exact Has.tail (Has.tail (Has.tail (Has.tail (Has.tail (Has.tail Has.head)))))) rfl ?_
          refine RW.fieldB fl44x0 rfl rfl ?_
          refine RW.loadB1 sc3 rfl rfl (by first | exact Has.head | exact Has.tail Has.head | exact Has.tail (Has.tail Has.head) | exact Has.tail (Has.tail (Has.tail Has.head)) | exact Has.tail (Has.tail (Has.tail (Has.tail Has.head))) | exact Has.tail (Has.tail (Has.tail (Has.tail (Has.tail Has.head)))) | exact Has.tail (Has.tail (Has.tail (Has.tail (Has.tail (Has.tail Has.head)))))) rfl ?_
          refine RW.max2 rfl rfl rfl ?_
          refine RW.ixArrB (q := 0) Try.underlying28 ar28 rfl rfl rfl (by rfl) (by omega) ?_
          refine RW.store1 sc3 rfl rfl (by first | exact Upd.head | exact Upd.tail Upd.head | exact Upd.tail (Upd.tail Upd.head) | exact Upd.tail (Upd.tail (Upd.tail Upd.head)) | exact Upd.tail (Upd.tail (Upd.tail (Upd.tail Upd.head))) | exact Upd.tail (Upd.tail (Upd.tail (Upd.tail (Upd.tail Upd.head)))) | exact Upd.tail (Upd.tail (Upd.tail (Upd.tail (Upd.tail (Upd.tail Upd.head)))))) rfl (by first | exact Nat.le_of_ble_eq_true rfl | simp) ?_
          refine RW.nil (EX.seq (CW.seq ?_))
          -- mq: region
          obtain ⟨l0, hl0⟩ : ∃ l0 : Nat, max (sN : Int) fr.row = (l0 : Int) := ⟨(max (sN : Int) fr.row).toNat, by omega⟩
          rw [hl0]
          refine CW.region ?_
          refine RW.ixArrB (q := 0) Try.underlying28 ar28 rfl rfl rfl (by rfl) (by omega) ?_
          refine RW.loadB1 sc3 rfl rfl (by first | exact Has.head | exact Has.tail Has.head | exact Has.tail (Has.tail Has.head) | exact Has.tail (Has.tail (Has.tail Has.head)) | exact Has.tail (Has.tail (Has.tail (Has.tail Has.head))) | exact Has.tail (Has.tail (Has.tail (Has.tail (Has.tail Has.head)))) | exact Has.tail (Has.tail (Has.tail (Has.tail (Has.tail (Has.tail Has.head)))))) rfl ?_
          refine RW.ixArrB (q := 1) Try.underlying28 ar28 rfl rfl rfl (by rfl) (by omega) ?_
          refine RW.loadB1 sc3 rfl rfl (by first | exact Has.head | exact Has.tail Has.head | exact Has.tail (Has.tail Has.head) | exact Has.tail (Has.tail (Has.tail Has.head)) | exact Has.tail (Has.tail (Has.tail (Has.tail Has.head))) | exact Has.tail (Has.tail (Has.tail (Has.tail (Has.tail Has.head)))) | exact Has.tail (Has.tail (Has.tail (Has.tail (Has.tail (Has.tail Has.head)))))) rfl ?_
          refine RW.lss rfl rfl rfl ?_
          refine RW.move rfl rfl ?_
          -- mq: guard slot 42
          refine RW.casesB 42 rfl (fun h1 => ?_) (fun h1 => ?_)
          · skip
            have h1p := of_decide_eq_true h1
            refine RW.guardT rfl rfl h1 ?_
            refine RW.ixArrB (q := 0) Try.underlying28 ar28 rfl rfl rfl (by rfl) (by omega) ?_
            refine RW.guardT rfl rfl h1 ?_
            refine RW.loadB1 sc3 rfl rfl (by first | exact Has.head | exact Has.tail Has.head | exact Has.tail (Has.tail Has.head) | exact Has.tail (Has.tail (Has.tail Has.head)) | exact Has.tail (Has.tail (Has.tail (Has.tail Has.head))) | exact Has.tail (Has.tail (Has.tail (Has.tail (Has.tail Has.head)))) | exact Has.tail (Has.tail (Has.tail (Has.tail (Has.tail (Has.tail Has.head)))))) rfl ?_
            refine RW.guardT rfl rfl h1 ?_
            refine RW.fieldB fl44x0 rfl rfl ?_
            refine RW.guardT rfl rfl h1 ?_
            refine RW.loadB1 sc3 rfl rfl (by first | exact Has.head | exact Has.tail Has.head | exact Has.tail (Has.tail Has.head) | exact Has.tail (Has.tail (Has.tail Has.head)) | exact Has.tail (Has.tail (Has.tail (Has.tail Has.head))) | exact Has.tail (Has.tail (Has.tail (Has.tail (Has.tail Has.head)))) | exact Has.tail (Has.tail (Has.tail (Has.tail (Has.tail (Has.tail Has.head)))))) rfl ?_
            refine RW.guardT rfl rfl h1 ?_
            refine RW.leq rfl rfl rfl ?_
            refine RW.pickB rfl rfl h1 rfl ?_
            refine RW.nil (EX.seq ?_)
            -- mq: cond
            first | refine CW.condD rfl (fun h2 => ?_) (fun h2 => ?_) | refine CW.cond rfl (fun h2 => ?_) (fun h2 => ?_)
            · skip
              refine CW.seq (CW.seq (CW.region ?_))
              refine RW.fieldB fl44x0 rfl rfl ?_
              refine RW.loadB1 sc3 rfl rfl (by first | exact Has.head | exact Has.tail Has.head | exact Has.tail (Has.tail Has.head) | exact Has.tail (Has.tail (Has.tail Has.head)) | exact Has.tail (Has.tail (Has.tail (Has.tail Has.head))) | exact Has.tail (Has.tail (Has.tail (Has.tail (Has.tail Has.head)))) | exact Has.tail (Has.tail (Has.tail (Has.tail (Has.tail (Has.tail Has.head)))))) rfl ?_
              refine RW.move rfl rfl ?_
              refine RW.lenSl Try.underlying22 rfl rfl ?_
              refine RW.lss rfl rfl rfl ?_
              refine RW.move rfl rfl ?_
              -- mq: guard slot 54
              refine RW.casesB 54 rfl (fun h3 => ?_) (fun h3 => ?_)
              · skip
                have h3p := of_decide_eq_true h3
                refine RW.guardT rfl rfl h3 ?_
                refine RW.ixArrB (q := 1) Try.underlying28 ar28 rfl rfl rfl (by rfl) (by omega) ?_
                refine RW.guardT rfl rfl h3 ?_
                refine RW.loadB1 sc3 rfl rfl (by first | exact Has.head | exact Has.tail Has.head | exact Has.tail (Has.tail Has.head) | exact Has.tail (Has.tail (Has.tail Has.head)) | exact Has.tail (Has.tail (Has.tail (Has.tail Has.head))) | exact Has.tail (Has.tail (Has.tail (Has.tail (Has.tail Has.head)))) | exact Has.tail (Has.tail (Has.tail (Has.tail (Has.tail (Has.tail Has.head)))))) rfl ?_
                refine RW.guardT rfl rfl h3 ?_
                refine RW.fieldB fl44x0 rfl rfl ?_
                refine RW.guardT rfl rfl h3 ?_
                refine RW.loadB1 sc3 rfl rfl (by first | exact Has.head | exact Has.tail Has.head | exact Has.tail (Has.tail Has.head) | exact Has.tail (Has.tail (Has.tail Has.head)) | exact Has.tail (Has.tail (Has.tail (Has.tail Has.head))) | exact Has.tail (Has.tail (Has.tail (Has.tail (Has.tail Has.head)))) | exact Has.tail (Has.tail (Has.tail (Has.tail (Has.tail (Has.tail Has.head)))))) rfl ?_
                refine RW.guardT rfl rfl h3 ?_
                refine RW.add rfl rfl rfl (wrap64 (by omega) (by omega)) ?_
                refine RW.guardT rfl rfl h3 ?_
                refine RW.gtr rfl rfl rfl ?_
                refine RW.pickB rfl rfl h3 rfl ?_
                refine RW.nil (EX.seq ?_)
                -- mq: cond
                first | refine CW.condD rfl (fun h4 => ?_) (fun h4 => ?_) | refine CW.cond rfl (fun h4 => ?_) (fun h4 => ?_)
                · skip
                  obtain ⟨l1, hl1⟩ : ∃ l1 : Nat, to.row + 1 = (l1 : Int) := ⟨(to.row + 1).toNat, by omega⟩
                  have hpt := partT_eq (rows := rows) (fr := fr) (to := to) (s := (sN : Int)) (e := (eN : Int)) (l0 := l0) (l1 := l1) hl0 (by omega) (by omega) (by rw [if_pos ⟨by omega, by omega⟩]; omega)
                  refine CW.region ?_
                  refine RW.fieldB fl44x0 rfl rfl ?_
                  refine RW.loadB1 sc3 rfl rfl (by first | exact Has.head | exact Has.tail Has.head | exact Has.tail (Has.tail Has.head) | exact Has.tail (Has.tail (Has.tail Has.head)) | exact Has.tail (Has.tail (Has.tail (Has.tail Has.head))) | exact Has.tail (Has.tail (Has.tail (Has.tail (Has.tail Has.head)))) | exact Has.tail (Has.tail (Has.tail (Has.tail (Has.tail (Has.tail Has.head)))))) rfl ?_
                  refine RW.add rfl rfl rfl (wrap64 (by omega) (by omega)) ?_
                  refine RW.ixArrB (q := 1) Try.underlying28 ar28 rfl rfl rfl (by rfl) (by omega) ?_
                  refine RW.store1 sc3 rfl rfl (by first | exact Upd.head | exact Upd.tail Upd.head | exact Upd.tail (Upd.tail Upd.head) | exact Upd.tail (Upd.tail (Upd.tail Upd.head)) | exact Upd.tail (Upd.tail (Upd.tail (Upd.tail Upd.head))) | exact Upd.tail (Upd.tail (Upd.tail (Upd.tail (Upd.tail Upd.head)))) | exact Upd.tail (Upd.tail (Upd.tail (Upd.tail (Upd.tail (Upd.tail Upd.head)))))) rfl (by first | exact Nat.le_of_ble_eq_true rfl | simp) ?_
                  refine RW.nil (EX.seq ?_)
                  -- mq: region
                  rw [hl1]
                  refine CW.region ?_
                  refine RW.loadBA ag81 rfl rfl (by first | exact Has.head | exact Has.tail Has.head | exact Has.tail (Has.tail Has.head) | exact Has.tail (Has.tail (Has.tail Has.head)) | exact Has.tail (Has.tail (Has.tail (Has.tail Has.head))) | exact Has.tail (Has.tail (Has.tail (Has.tail (Has.tail Has.head)))) | exact Has.tail (Has.tail (Has.tail (Has.tail (Has.tail (Has.tail Has.head)))))) rfl rfl ?_
                  refine RW.loadBA ag28 rfl rfl (by first | exact Has.head | exact Has.tail Has.head | exact Has.tail (Has.tail Has.head) | exact Has.tail (Has.tail (Has.tail Has.head)) | exact Has.tail (Has.tail (Has.tail (Has.tail Has.head))) | exact Has.tail (Has.tail (Has.tail (Has.tail (Has.tail Has.head)))) | exact Has.tail (Has.tail (Has.tail (Has.tail (Has.tail (Has.tail Has.head)))))) rfl rfl ?_
                  refine RW.callW (first := []) (cap := []) (fun w6 _ w7 => BlK wB b ((L.take i).flatMap (partT rows fr to) ++ linT rows fr to l0 l1) w7 ∧ KB b w6 w7) rfl rfl ca40 rfl (fun w' hw' => line_c wB F A n c rows hr fr to b _ l0 l1 (by omega) (by omega) (by omega) hto hmore (by rw [← hpt]; exact hlt2) w' (hb1.1.ext (hw'.same hb1.2.2.1.all (fun _ h => List.mem_cons_of_mem _ h) hx))) (fun w6 v w7 hw6 ⟨hb7, hk7⟩ => ?_)
                  refine RW.nil (EX.bkN (EX.seq (CW.region ?_)))
                  refine RW.add rfl rfl rfl (wrap64 (by omega) (by omega)) ?_
                  refine RW.move rfl rfl ?_
                  refine RW.nil ?_
                  -- mq: loopend
                  refine EX.lpN (i + 1) (by omega) (by omega) (by repeat (first | exact Sub.nil | refine Sub.cons (by rfl) ?_)) (fun w' hw' => ?_)
                  subst hw'
                  rw [hft, hpt]
                  exact ⟨hb7, (hb1.2.1.trans0 (hw6.same hb1.2.2.1.all (fun _ h => List.mem_cons_of_mem _ h) hx)).trans hk7, (hw6.rem Rem.head).kb hk7 hx, hb1.2.2.2.kb ((KB.of_ext (hw6.same hb1.2.2.1.all (fun _ h => List.mem_cons_of_mem _ h) hx)).trans hk7)⟩
                · skip
                  have hpt := partT_eq (rows := rows) (fr := fr) (to := to) (s := (sN : Int)) (e := (eN : Int)) (l0 := l0) (l1 := eN) hl0 (by omega) (by omega) (by rw [if_neg (fun e => by omega)])
                  refine CW.skip (EX.seq (CW.region ?_))
                  refine RW.loadBA ag81 rfl rfl (by first | exact Has.head | exact Has.tail Has.head | exact Has.tail (Has.tail Has.head) | exact Has.tail (Has.tail (Has.tail Has.head)) | exact Has.tail (Has.tail (Has.tail (Has.tail Has.head))) | exact Has.tail (Has.tail (Has.tail (Has.tail (Has.tail Has.head)))) | exact Has.tail (Has.tail (Has.tail (Has.tail (Has.tail (Has.tail Has.head)))))) rfl rfl ?_
                  refine RW.loadBA ag28 rfl rfl (by first | exact Has.head | exact Has.tail Has.head | exact Has.tail (Has.tail Has.head) | exact Has.tail (Has.tail (Has.tail Has.head)) | exact Has.tail (Has.tail (Has.tail (Has.tail Has.head))) | exact Has.tail (Has.tail (Has.tail (Has.tail (Has.tail Has.head)))) | exact Has.tail (Has.tail (Has.tail (Has.tail (Has.tail (Has.tail Has.head)))))) rfl rfl ?_
                  refine RW.callW (first := []) (cap := []) (fun w6 _ w7 => BlK wB b ((L.take i).flatMap (partT rows fr to) ++ linT rows fr to l0 eN) w7 ∧ KB b w6 w7) rfl rfl ca40 rfl (fun w' hw' => line_c wB F A n c rows hr fr to b _ l0 eN (by omega) (by omega) (by omega) hto hmore (by rw [← hpt]; exact hlt2) w' (hb1.1.ext (hw'.same hb1.2.2.1.all (fun _ h => List.mem_cons_of_mem _ h) hx))) (fun w6 v w7 hw6 ⟨hb7, hk7⟩ => ?_)
                  refine RW.nil (EX.bkN (EX.seq (CW.region ?_)))
                  refine RW.add rfl rfl rfl (wrap64 (by omega) (by omega)) ?_
                  refine RW.move rfl rfl ?_
                  refine RW.nil ?_
                  -- mq: loopend
                  refine EX.lpN (i + 1) (by omega) (by omega) (by repeat (first | exact Sub.nil | refine Sub.cons (by rfl) ?_)) (fun w' hw' => ?_)
                  subst hw'
                  rw [hft, hpt]
                  exact ⟨hb7, (hb1.2.1.trans0 (hw6.same hb1.2.2.1.all (fun _ h => List.mem_cons_of_mem _ h) hx)).trans hk7, (hw6.rem Rem.head).kb hk7 hx, hb1.2.2.2.kb ((KB.of_ext (hw6.same hb1.2.2.1.all (fun _ h => List.mem_cons_of_mem _ h) hx)).trans hk7)⟩
              · skip
                have h3p := of_decide_eq_false h3
                refine RW.guardF rfl rfl rfl h3 ?_
                refine RW.guardF rfl rfl rfl h3 ?_
                refine RW.guardF rfl rfl rfl h3 ?_
                refine RW.guardF rfl rfl rfl h3 ?_
                refine RW.guardF rfl rfl rfl h3 ?_
                refine RW.guardF rfl rfl rfl h3 ?_
                refine RW.pickC rfl rfl h3 rfl ?_
                refine RW.nil (EX.seq ?_)
                -- mq: cond
                refine CW.condF rfl (rfl) ?_
                have hpt := partT_eq (rows := rows) (fr := fr) (to := to) (s := (sN : Int)) (e := (eN : Int)) (l0 := l0) (l1 := eN) hl0 (by omega) (by omega) (by rw [if_neg (fun e => by omega)])
                refine CW.skip (EX.seq (CW.region ?_))
                refine RW.loadBA ag81 rfl rfl (by first | exact Has.head | exact Has.tail Has.head | exact Has.tail (Has.tail Has.head) | exact Has.tail (Has.tail (Has.tail Has.head)) | exact Has.tail (Has.tail (Has.tail (Has.tail Has.head))) | exact Has.tail (Has.tail (Has.tail (Has.tail (Has.tail Has.head)))) | exact Has.tail (Has.tail (Has.tail (Has.tail (Has.tail (Has.tail Has.head)))))) rfl rfl ?_
                refine RW.loadBA ag28 rfl rfl (by first | exact Has.head | exact Has.tail Has.head | exact Has.tail (Has.tail Has.head) | exact Has.tail (Has.tail (Has.tail Has.head)) | exact Has.tail (Has.tail (Has.tail (Has.tail Has.head))) | exact Has.tail (Has.tail (Has.tail (Has.tail (Has.tail Has.head)))) | exact Has.tail (Has.tail (Has.tail (Has.tail (Has.tail (Has.tail Has.head)))))) rfl rfl ?_
                refine RW.callW (first := []) (cap := []) (fun w6 _ w7 => BlK wB b ((L.take i).flatMap (partT rows fr to) ++ linT rows fr to l0 eN) w7 ∧ KB b w6 w7) rfl rfl ca40 rfl (fun w' hw' => line_c wB F A n c rows hr fr to b _ l0 eN (by omega) (by omega) (by omega) hto hmore (by rw [← hpt]; exact hlt2) w' (hb1.1.ext (hw'.same hb1.2.2.1.all (fun _ h => List.mem_cons_of_mem _ h) hx))) (fun w6 v w7 hw6 ⟨hb7, hk7⟩ => ?_)
                refine RW.nil (EX.bkN (EX.seq (CW.region ?_)))
                refine RW.add rfl rfl rfl (wrap64 (by omega) (by omega)) ?_
                refine RW.move rfl rfl ?_
                refine RW.nil ?_
                -- mq: loopend
                refine EX.lpN (i + 1) (by omega) (by omega) (by repeat (first | exact Sub.nil | refine Sub.cons (by rfl) ?_)) (fun w' hw' => ?_)
                subst hw'
                rw [hft, hpt]
                exact ⟨hb7, (hb1.2.1.trans0 (hw6.same hb1.2.2.1.all (fun _ h => List.mem_cons_of_mem _ h) hx)).trans hk7, (hw6.rem Rem.head).kb hk7 hx, hb1.2.2.2.kb ((KB.of_ext (hw6.same hb1.2.2.1.all (fun _ h => List.mem_cons_of_mem _ h) hx)).trans hk7)⟩
            · skip
              refine CW.skip (EX.bkN (EX.seq (CW.region ?_)))
              refine RW.add rfl rfl rfl (wrap64 (by omega) (by omega)) ?_
              refine RW.move rfl rfl ?_
              refine RW.nil ?_
              -- mq: loopend
              refine EX.lpN (i + 1) (by omega) (by omega) (by repeat (first | exact Sub.nil | refine Sub.cons (by rfl) ?_)) (fun w' hw' => ?_)
              rw [hft, partT_no (fun e => by rw [hl0] at e; omega), List.append_nil]
              have hs := hw'.same hb1.2.2.1.all (fun _ h => List.mem_cons_of_mem _ h) hx
              exact ⟨hb1.1.ext hs, hb1.2.1.trans0 hs, (hw'.rem Rem.head).rebase, hb1.2.2.2.kb (KB.of_ext hs)⟩
          · skip
            have h1p := of_decide_eq_false h1
            refine RW.guardF rfl rfl rfl h1 ?_
            refine RW.guardF rfl rfl rfl h1 ?_
            refine RW.guardF rfl rfl rfl h1 ?_
            refine RW.guardF rfl rfl rfl h1 ?_
            refine RW.guardF rfl rfl rfl h1 ?_
            refine RW.pickC rfl rfl h1 rfl ?_
            refine RW.nil (EX.seq ?_)
            -- mq: cond
            refine CW.condF rfl (rfl) ?_
            refine CW.skip (EX.bkN (EX.seq (CW.region ?_)))
            refine RW.add rfl rfl rfl (wrap64 (by omega) (by omega)) ?_
            refine RW.move rfl rfl ?_
            refine RW.nil ?_
            -- mq: loopend
            refine EX.lpN (i + 1) (by omega) (by omega) (by repeat (first | exact Sub.nil | refine Sub.cons (by rfl) ?_)) (fun w' hw' => ?_)
            rw [hft, partT_no (fun e => by rw [hl0] at e; omega), List.append_nil]
            have hs := hw'.same hb1.2.2.1.all (fun _ h => List.mem_cons_of_mem _ h) hx
            exact ⟨hb1.1.ext hs, hb1.2.1.trans0 hs, (hw'.rem Rem.head).rebase, hb1.2.2.2.kb (KB.of_ext hs)⟩
        · skip
          refine CW.exit (EX.seqE (EX.lpE (EX.bkE ?_)))
          refine EX.fin0N Try.results22 (fun wz hw => ?_)
          -- mq: done
          have hil : i = L.length := by omega
          have hs := hw.same hb1.2.2.1.all (fun _ h => h) hx
          rw [hil, List.take_length] at hb1
          exact ⟨_, rfl, hb1.1.ext hs, hb1.2.1.trans0 hs⟩
end Go.Proofs.Ytjmmikdbhhomiaa.Mq
