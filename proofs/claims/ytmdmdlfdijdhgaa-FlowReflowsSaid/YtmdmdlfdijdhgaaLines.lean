/- walks of flow: Lines -/
import Derived.Test.YtmdmdlfdijdhgaaRef2
import Derived.Test.YtmdmdlfdijdhgaaCallA
namespace Go.Proofs.Ytmdmdlfdijdhgaa.Mq
open Go Go.RowKit Go.Proofs

def linesStep (out : List (Int × Int)) (i : Int) (c : Bool) : List (Int × Int) :=
  match out.getLast? with
  | some p => if c then out.dropLast ++ [(p.1, i + 1)] else out ++ [(i, i + 1)]
  | none => [(i, i + 1)]
theorem lines_c (w : World) (F : Nat → Prop) (A : Option Addr) (n c : Nat) (rs : List RowV) (f : Nat → List (Int × Int)) (hr : Rd ERow w F A n c rs) (hn : n ≤ 100000)
    (h0 : f 0 = []) (hf : ∀ k r, rs[k]? = some r → f (k + 1) = linesStep (f k) k r.cont) (hfl : ∀ k, k ≤ n → (f k).length ≤ k) :
    Calls Try.prog 20 [.slice A n c].toArray w (RetSl EPair w (f n)) := by
  refine calls (n := 38) Try.func20 rfl Try.ntmps20 rfl ?_
  refine CW.sub (H' := SH w [] []) ?_ (Sub.refl _) (fun x hx => SH.start' _ _ hx)
  refine CW.ownNil 42 2 ?_
  refine CW.seq (CW.region ?_)
  refine RW.assign rfl rfl ?_
  refine RW.nil (EX.seq (CW.seq (CW.region ?_)))
  refine RW.assign rfl rfl ?_
  refine RW.nil (EX.seq (CW.seq (CW.seq (CW.region ?_))))
  refine RW.move rfl rfl ?_
  refine RW.lenSl Try.underlying24 rfl rfl ?_
  refine RW.move rfl rfl ?_
  refine RW.nil (EX.seq (CW.block ?_))
  -- mq: loop
  refine CW.loop (ι := Nat × Value × List (Int × Int)) (fun i => [(3, i.2.1), (7, .slice A n c), (8, .int .i64 (n : Int)), (9, .int .i64 (i.1 : Int))]) (fun i => SH w [] [own 42 2 i.2.1 i.2.2.length (EPair.all i.2.2)]) (fun i => i.1 ≤ n ∧ i.2.2 = f i.1 ∧ ∀ g, i.2.1.ownBlock = some g → w.heap.size ≤ g) (fun i => n - i.1) ?_ ?_
  · exact fun w hw => ⟨(0, .slice none 0 0, []), ⟨Nat.zero_le _, h0.symm, by simp [Value.ownBlock]⟩, (by repeat (first | exact Sub.nil | refine Sub.cons rfl ?_)), hw⟩
  · rintro ⟨k, v, L⟩ ⟨hk, hL, hv0⟩
    dsimp only at hk hL hv0 ⊢
    refine CW.seq (CW.region ?_)
    refine RW.lss rfl rfl rfl ?_
    refine RW.nil (EX.seq (CW.seq ?_))
    -- mq: cond
    first | refine CW.condD rfl (fun hlt => ?_) (fun hlt => ?_) | refine CW.cond rfl (fun hlt => ?_) (fun hlt => ?_)
    · skip
      have hlt' : k < n := by omega
      obtain ⟨r, hrk⟩ : ∃ r, rs[k]? = some r := ⟨rs[k]'(by rw [hr.len]; exact hlt'), List.getElem?_eq_getElem _⟩
      obtain ⟨ad, hA, hF, hcell⟩ := hr.cells (by omega)
      have hLl : L.length ≤ k := hL ▸ hfl k hk
      refine CW.formOwn (v := v) Has.head (fun Ao co hv hcap hmax hlen hg => ?_)
      subst hv
      refine CW.skip (EX.seq (CW.seq (CW.block (CW.seq (CW.region ?_)))))
      refine RW.move rfl rfl ?_
      refine RW.ixAddr sl24 rfl rfl rfl (by first | rfl | assumption) (by rfl) (by omega) ?_
      refine RW.loadA ag45 rfl rfl ((ERow.len r)) (fun w' hw' j u hj => hw'.base_cell (hcell k r j u hrk hj) (by simp)) ?_
      refine RW.allocA ag45 rfl (fun g5 hg5 hf5 => ?_)
      refine RW.assign rfl rfl ?_
      refine RW.storeA ag45 rfl rfl (by first | exact Upd.head | exact Upd.tail Upd.head | exact Upd.tail (Upd.tail Upd.head) | exact Upd.tail (Upd.tail (Upd.tail Upd.head)) | exact Upd.tail (Upd.tail (Upd.tail (Upd.tail Upd.head))) | exact Upd.tail (Upd.tail (Upd.tail (Upd.tail (Upd.tail Upd.head)))) | exact Upd.tail (Upd.tail (Upd.tail (Upd.tail (Upd.tail (Upd.tail Upd.head)))))) (by first | rfl | exact Enc.len _ _) (by repeat (first | exact Ones.nil | exact Enc.ones _ _ | refine Ones.cons rfl ?_)) (by first | exact Nat.le_of_ble_eq_true rfl | (simp only [Enc.len]; decide)) ?_
      refine RW.nil (EX.seq (CW.seq (CW.seq (CW.region ?_))))
      refine RW.move rfl rfl ?_
      refine RW.lenSl Try.underlying40 rfl rfl ?_
      refine RW.assign rfl rfl ?_
      refine RW.nil (EX.seq (CW.seq (CW.region ?_)))
      refine RW.move rfl rfl ?_
      refine RW.gtr rfl rfl rfl ?_
      refine RW.move rfl rfl ?_
      -- mq: guard slot 18
      have Hstep := hf k r hrk
      refine RW.casesB 18 rfl (fun hb => ?_) (fun hb => ?_)
      · skip
        have hbp := of_decide_eq_true hb
        refine RW.guardT rfl rfl hb ?_
        refine RW.fieldB fl45x1 rfl rfl ?_
        refine RW.guardT rfl rfl hb ?_
        refine RW.loadB1 sc4 rfl rfl (by first | exact Has.head | exact Has.tail Has.head | exact Has.tail (Has.tail Has.head) | exact Has.tail (Has.tail (Has.tail Has.head)) | exact Has.tail (Has.tail (Has.tail (Has.tail Has.head))) | exact Has.tail (Has.tail (Has.tail (Has.tail (Has.tail Has.head)))) | exact Has.tail (Has.tail (Has.tail (Has.tail (Has.tail (Has.tail Has.head)))))) rfl ?_
        refine RW.pickB rfl rfl hb rfl ?_
        refine RW.nil (EX.seq ?_)
        -- mq: cond
        first | refine CW.condD rfl (fun hc => ?_) (fun hc => ?_) | refine CW.cond rfl (fun hc => ?_) (fun hc => ?_)
        · skip
          obtain ⟨g, rfl⟩ := hg (by omega)
          obtain ⟨p, hp⟩ : ∃ p, L[L.length - 1]? = some p := ⟨L[L.length - 1]'(by omega), List.getElem?_eq_getElem _⟩
          have hset := EPair.all_set (j := 1) (a' := (p.1, (k : Int) + 1)) (v := .int .i64 ((k : Int) + 1)) hp (by decide) rfl
          have hst : linesStep L k r.cont = L.set (L.length - 1) (p.1, (k : Int) + 1) := by
            rw [List.getElem?_eq_getElem (by omega)] at hp
            simp only [Option.some.injEq] at hp
            have hne : L ≠ [] := fun e => by subst e; simp at hbp
            have hlast : L.getLast? = some p := by rw [List.getLast?_eq_some_getLast hne, List.getLast_eq_getElem, hp]
            simp only [linesStep, hlast, hc, if_true]
            rw [List.set_eq_take_append_cons_drop, if_pos (by omega), List.dropLast_eq_take, show L.length - 1 + 1 = L.length by omega, List.drop_length]
          refine CW.seq (CW.region ?_)
          refine RW.move rfl rfl ?_
          refine RW.move rfl rfl ?_
          refine RW.sub_ rfl rfl rfl (wrap64 (by omega) (by omega)) ?_
          refine RW.move rfl rfl ?_
          refine RW.add rfl rfl rfl (wrap64 (by omega) (by omega)) ?_
          refine RW.ixAddr (q := (L.length - 1)) sl40 rfl rfl rfl (by first | rfl | assumption) (by omega) (by omega) ?_
          refine RW.ixArr (q := 1) Try.underlying42 ar42 rfl rfl rfl (by omega) (by omega) ?_
          -- mq: op 7: ('Op.store', '3', ('Operand.tmp', '28'), ('Operand.tmp', '26')) -> slot None ("flow.go:19")
          refine RW.storeOwn1 (o := (L.length - 1) * 2 + 1) sc3 rfl rfl (by exact Upd.tail Upd.head) (by simp [Addr.add_lit]) rfl (by rw [EPair.all_length]; show _ < L.length * 2; omega) ?_
          refine RW.nil (EX.seq (CW.exit (EX.seqE (EX.bkE (EX.seq (CW.region ?_))))))
          refine RW.add rfl rfl rfl (wrap64 (by omega) (by omega)) ?_
          refine RW.move rfl rfl ?_
          refine RW.nil ?_
          -- mq: loopend
          refine EX.lpN (k + 1, _, L.set (L.length - 1) (p.1, (k : Int) + 1)) ⟨by omega, by rw [Hstep, ← hL, hst], hv0⟩ (by omega) (by repeat (first | exact Sub.nil | refine Sub.cons (by rfl) ?_)) (fun w' hw' => ?_)
          have := hw'.rem Rem.head
          rw [show (L.length - 1) * 2 + 1 = (L.length - 1) * EPair.sz + 1 from rfl, hset] at this
          simpa using this
        · skip
          have hst : linesStep L k r.cont = L ++ [((k : Int), (k : Int) + 1)] := by
            have hne : L ≠ [] := fun e => by subst e; simp at hbp
            simp only [linesStep, List.getLast?_eq_some_getLast hne, hc]
            rfl
          refine CW.skip (EX.seq (CW.region ?_))
          refine RW.move rfl rfl ?_
          refine RW.move rfl rfl ?_
          refine RW.move rfl rfl ?_
          refine RW.add rfl rfl rfl (wrap64 (by omega) (by omega)) ?_
          refine RW.buildR ba42 rfl rfl rfl ?_
          refine RW.buildSlc sl40 rfl rfl rfl rfl (fun g34 hg34 hf34 => ?_)
          refine RW.append1 sl40 rfl rfl rfl (by first | exact Rem.head | exact Rem.tail Rem.head | exact Rem.tail (Rem.tail Rem.head) | exact Rem.tail (Rem.tail (Rem.tail Rem.head)) | exact Rem.tail (Rem.tail (Rem.tail (Rem.tail Rem.head))) | exact Rem.tail (Rem.tail (Rem.tail (Rem.tail (Rem.tail Rem.head)))) | exact Rem.tail (Rem.tail (Rem.tail (Rem.tail (Rem.tail (Rem.tail Rem.head)))))) (fun _ => by first | exact Upd.head | exact Upd.tail Upd.head | exact Upd.tail (Upd.tail Upd.head) | exact Upd.tail (Upd.tail (Upd.tail Upd.head)) | exact Upd.tail (Upd.tail (Upd.tail (Upd.tail Upd.head))) | exact Upd.tail (Upd.tail (Upd.tail (Upd.tail (Upd.tail Upd.head)))) | exact Upd.tail (Upd.tail (Upd.tail (Upd.tail (Upd.tail (Upd.tail Upd.head)))))) rfl (by repeat (first | exact Ones.nil | exact Enc.ones _ _ | refine Ones.cons rfl ?_)) (by simp only [maxLen]; omega) (by omega) (fun v35 hv35 => ?_)
          refine RW.assign rfl rfl ?_
          refine RW.nil (EX.bkN (EX.seq (CW.region ?_)))
          refine RW.add rfl rfl rfl (wrap64 (by omega) (by omega)) ?_
          refine RW.move rfl rfl ?_
          refine RW.nil ?_
          -- mq: loopend
          refine EX.lpN (k + 1, v35, L ++ [((k : Int), (k : Int) + 1)]) ⟨by omega, by rw [Hstep, ← hL, hst], fun g hg => by
            rcases hv35 g hg with h | h
            · exact hv0 g h
            · exact h.1⟩ (by omega) (by repeat (first | exact Sub.nil | refine Sub.cons (by rfl) ?_)) (fun w' hw' => ?_)
          have := hw'.rem Rem.head
          rw [List.length_append, Enc.all_snoc]
          exact this
      · skip
        have hbp := of_decide_eq_false hb
        refine RW.guardF rfl rfl rfl hb ?_
        refine RW.guardF rfl rfl rfl hb ?_
        refine RW.pickC rfl rfl hb rfl ?_
        refine RW.nil (EX.seq ?_)
        -- mq: cond
        first | refine CW.condD rfl (fun hc => ?_) (fun hc => ?_) | refine CW.cond rfl (fun hc => ?_) (fun hc => ?_)
        · skip
          exact absurd hc (by decide)
        · skip
          have hst : linesStep L k r.cont = L ++ [((k : Int), (k : Int) + 1)] := by
            have hne : L = [] := List.eq_nil_of_length_eq_zero (by omega)
            subst hne
            rfl
          refine CW.skip (EX.seq (CW.region ?_))
          refine RW.move rfl rfl ?_
          refine RW.move rfl rfl ?_
          refine RW.move rfl rfl ?_
          refine RW.add rfl rfl rfl (wrap64 (by omega) (by omega)) ?_
          refine RW.buildR ba42 rfl rfl rfl ?_
          refine RW.buildSlc sl40 rfl rfl rfl rfl (fun g34 hg34 hf34 => ?_)
          refine RW.append1 sl40 rfl rfl rfl (by first | exact Rem.head | exact Rem.tail Rem.head | exact Rem.tail (Rem.tail Rem.head) | exact Rem.tail (Rem.tail (Rem.tail Rem.head)) | exact Rem.tail (Rem.tail (Rem.tail (Rem.tail Rem.head))) | exact Rem.tail (Rem.tail (Rem.tail (Rem.tail (Rem.tail Rem.head)))) | exact Rem.tail (Rem.tail (Rem.tail (Rem.tail (Rem.tail (Rem.tail Rem.head)))))) (fun _ => by first | exact Upd.head | exact Upd.tail Upd.head | exact Upd.tail (Upd.tail Upd.head) | exact Upd.tail (Upd.tail (Upd.tail Upd.head)) | exact Upd.tail (Upd.tail (Upd.tail (Upd.tail Upd.head))) | exact Upd.tail (Upd.tail (Upd.tail (Upd.tail (Upd.tail Upd.head)))) | exact Upd.tail (Upd.tail (Upd.tail (Upd.tail (Upd.tail (Upd.tail Upd.head)))))) rfl (by repeat (first | exact Ones.nil | exact Enc.ones _ _ | refine Ones.cons rfl ?_)) (by simp only [maxLen]; omega) (by omega) (fun v35 hv35 => ?_)
          refine RW.assign rfl rfl ?_
          refine RW.nil (EX.bkN (EX.seq (CW.region ?_)))
          refine RW.add rfl rfl rfl (wrap64 (by omega) (by omega)) ?_
          refine RW.move rfl rfl ?_
          refine RW.nil ?_
          -- mq: loopend
          refine EX.lpN (k + 1, v35, L ++ [((k : Int), (k : Int) + 1)]) ⟨by omega, by rw [Hstep, ← hL, hst], fun g hg => by
            rcases hv35 g hg with h | h
            · exact hv0 g h
            · exact h.1⟩ (by omega) (by repeat (first | exact Sub.nil | refine Sub.cons (by rfl) ?_)) (fun w' hw' => ?_)
          have := hw'.rem Rem.head
          rw [List.length_append, Enc.all_snoc]
          exact this
    · skip
      refine CW.exit (EX.seqE (EX.lpE (EX.bkE (EX.seq (CW.seq (CW.region ?_))))))
      refine RW.move rfl rfl ?_
      refine RW.assign rfl rfl ?_
      refine RW.nil (EX.seq (CW.ret ?_))
      refine EX.fin1 Try.results20 rfl (fun wz hw => ?_)
      -- mq: done
      have hkn : k = n := by omega
      subst hkn
      rw [← hL]
      exact RetSl.of_own hw.ext (hw.has Has.head) rfl hv0
def contAt (rows : List RowL) (k : Nat) : Bool := (rows[k]?.map (·.2)).getD false
def linesL (rows : List RowL) : Nat → List (Int × Int)
  | 0 => []
  | k + 1 => linesStep (linesL rows k) k (contAt rows k)
theorem linesStep_length (L : List (Int × Int)) (i : Int) (c : Bool) : (linesStep L i c).length ≤ L.length + 1 := by
  unfold linesStep
  split
  · split <;> simp
  · simp
theorem linesL_length (rows : List RowL) (k : Nat) : (linesL rows k).length ≤ k := by
  induction k with
  | zero => simp [linesL]
  | succ k ih =>
    have := linesStep_length (linesL rows k) k (contAt rows k)
    rw [linesL]
    omega
theorem Lines_c (w : World) (F : Nat → Prop) (A : Option Addr) (n c : Nat) (rows : List RowL) (hr : RdRows w F A n c rows) (hn : n ≤ 100000) :
    Calls Try.prog 20 [.slice A n c].toArray w (RetSl EPair w (linesL rows n)) := by
  obtain ⟨rs, h1, h2, _⟩ := hr.prf
  refine lines_c w F A n c rs (linesL rows) h1 hn rfl (fun k r hk => ?_) (fun k _ => linesL_length rows k)
  have : contAt rows k = r.cont := by
    have := congrArg (fun l => l[k]?) h2
    simp only [List.getElem?_map, hk, Option.map_some] at this
    unfold contAt
    rw [← this]
    rfl
  rw [linesL, this]
/- the law: one line behind the other -/
def good (rows : List RowL) (a e : Nat) : Prop := ∀ k, a ≤ k → k < e → lineL rows k = a
def chainL (rows : List RowL) : Nat → List (Int × Int) → Nat → Prop
  | a, [], b => a = b
  | a, p :: L, b => ∃ e : Nat, p = ((a : Int), (e : Int)) ∧ a < e ∧ good rows a e ∧ contAt rows e = false ∧ chainL rows e L b
theorem chain_snoc {rows : List RowL} {s e : Nat} (hse : s < e) (hg : good rows s e) (hc : contAt rows e = false) : ∀ (M : List (Int × Int)) (a : Nat), chainL rows a M s → chainL rows a (M ++ [((s : Int), (e : Int))]) e
  | [], a, h => by
    have h : a = s := h
    subst h
    exact ⟨e, rfl, hse, hg, hc, rfl⟩
  | p :: M, a, h => by
    obtain ⟨e', h1, h2, h3, h4, h5⟩ := h
    exact ⟨e', h1, h2, h3, h4, chain_snoc hse hg hc M e' h5⟩
theorem chain_le {rows : List RowL} : ∀ (M : List (Int × Int)) (a b : Nat), chainL rows a M b → a ≤ b
  | [], a, b, h => Nat.le_of_eq h
  | p :: M, a, b, h => by
    obtain ⟨e', _, h2, _, _, h5⟩ := h
    have := chain_le M e' b h5
    omega
def chainE (rows : List RowL) (n : Nat) (a : Nat) (L : List (Int × Int)) : Prop := (L = [] ∧ a = n) ∨ ∃ (M : List (Int × Int)) (s : Nat), L = M ++ [((s : Int), (n : Int))] ∧ s < n ∧ good rows s n ∧ chainL rows a M s
theorem lineL_succ {rows : List RowL} (k : Nat) : lineL rows k = if k = 0 then 0 else if contAt rows k = true then lineL rows (k - 1) else k := by
  cases k with
  | zero => rfl
  | succ k =>
    rw [lineL, contAt]
    cases h : rows[k + 1]? <;> simp
theorem linesL_chain (rows : List RowL) (k : Nat) : chainE rows k 0 (linesL rows k) := by
  induction k with
  | zero => exact .inl ⟨rfl, rfl⟩
  | succ k ih =>
    rw [linesL]
    rcases ih with ⟨h1, h2⟩ | ⟨M, s, h1, h2, h3, h4⟩
    · subst h2
      rw [h1]
      refine .inr ⟨[], 0, rfl, by omega, fun j h1 h2 => ?_, rfl⟩
      have : j = 0 := by omega
      subst this
      rfl
    · rw [h1]
      simp only [linesStep, List.getLast?_append, List.getLast?_singleton, Option.some_or, List.dropLast_concat]
      by_cases hc : contAt rows k = true
      · rw [if_pos hc]
        refine .inr ⟨M, s, rfl, by omega, fun j hj1 hj2 => ?_, h4⟩
        by_cases hjk : j = k
        · subst hjk
          rw [lineL_succ, if_neg (by omega), if_pos hc]
          exact h3 _ (by omega) (by omega)
        · exact h3 j hj1 (by omega)
      · rw [if_neg hc]
        refine .inr ⟨M ++ [((s : Int), (k : Int))], k, rfl, by omega, fun j hj1 hj2 => ?_, chain_snoc h2 h3 (by simpa using hc) M 0 h4⟩
        have : j = k := by omega
        subst this
        rw [lineL_succ, if_neg (by omega), if_neg hc]
theorem chainE_step {rows : List RowL} {n a : Nat} {p : Int × Int} {L : List (Int × Int)} (h : chainE rows n a (p :: L)) : ∃ e : Nat, p = ((a : Int), (e : Int)) ∧ a < e ∧ e ≤ n ∧ good rows a e ∧ (e < n → contAt rows e = false) ∧ chainE rows n e L := by
  rcases h with ⟨h, _⟩ | ⟨M, s, h1, h2, h3, h4⟩
  · cases h
  · cases M with
    | nil =>
      have h4 : a = s := h4
      subst h4
      simp only [List.nil_append, List.cons.injEq] at h1
      obtain ⟨rfl, rfl⟩ := h1
      exact ⟨n, rfl, h2, Nat.le_refl _, h3, fun h => absurd h (by omega), .inl ⟨rfl, rfl⟩⟩
    | cons q M =>
      simp only [List.cons_append, List.cons.injEq] at h1
      obtain ⟨rfl, rfl⟩ := h1
      obtain ⟨e, g1, g2, g3, g4, g5⟩ := h4
      have := chain_le M e s g5
      exact ⟨e, g1, g2, by omega, g3, fun _ => g4, .inr ⟨M, s, rfl, h2, h3, g5⟩⟩
end Go.Proofs.Ytmdmdlfdijdhgaa.Mq
