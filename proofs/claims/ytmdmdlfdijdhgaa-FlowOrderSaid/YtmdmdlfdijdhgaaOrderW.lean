/- walk of FlowOrder -/
import Derived.Test.YtmdmdlfdijdhgaaOrder1
import Derived.Test.YtmdmdlfdijdhgaaDrawT
import Derived.Test.YtmdmdlfdijdhgaaOpen
import Derived.Test.YtmdmdlfdijdhgaaTwiceW
namespace Go.Proofs.Ytmdmdlfdijdhgaa.Mq
open Go Go.RowKit Go.Proofs

def swapB (p q : PosV) : Bool := decide (q.row < p.row) || (decide (q.row = p.row) && decide (q.col < p.col))
def loP (p q : PosV) : PosV := if swapB p q then q else p
def hiP (p q : PosV) : PosV := if swapB p q then p else q
theorem lo_hi (p q : PosV) : leP (loP p q) (hiP p q) := by
  unfold loP hiP
  cases h : swapB p q
  · simp only [swapB, Bool.or_eq_false_iff, Bool.and_eq_false_iff, decide_eq_false_iff_not] at h
    simp only [Bool.false_eq_true, if_false, leP]
    omega
  · simp only [swapB, Bool.or_eq_true, Bool.and_eq_true, decide_eq_true_eq] at h
    simp only [if_true, leP]
    omega
theorem lo_hi64 {p q : PosV} (hp : Pos64 p) (hq : Pos64 q) : Pos64 (loP p q) ∧ Pos64 (hiP p q) := by
  unfold loP hiP
  cases swapB p q <;> simp [hp, hq]
theorem order_c (w : World) (F : Nat → Prop) (A : Option Addr) (n c : Nat) (rows : List RowL) (hr : RdRows w F A n c rows) (hn0 : n ≤ 140737488351232) (hm0 : ∀ row ∈ rows, row.1.length ≤ 140737488351232) (a : Nat) (ha : a < 65536) (p q : PosV) (hp : Pos64 p) (hq : Pos64 q) :
    Calls Try.prog 9 [.slice A n c, .int .u16 (a : Int), .agg [.int .i64 p.row, .int .i64 p.col, .int .i64 q.row, .int .i64 q.col].toArray].toArray w (fun e w' => e = .returned (.bool true) ∧ Ext [] w w') := by
  have hl := hr.len
  refine calls (n := 89) Try.func9 rfl Try.ntmps9 rfl ?_
  refine CW.sub (H' := SH w [] []) ?_ (Sub.refl _) (fun x hx => SH.start' _ _ hx)
  refine CW.seq (CW.region ?_)
  refine RW.boxA rfl rfl (fun g5 hg5 hf5 => ?_)
  refine RW.assign rfl rfl ?_
  refine RW.nil (EX.seq (CW.seq (CW.seq ?_)))
  -- mq: region
  refine CW.region ?_
  refine RW.move rfl rfl ?_
  -- mq: at
  refine RW.call rfl ca19 rfl (fun w' hw' => Great_c w' _ A n c rows (hr.ext hw'.ext (by simp)) hn0 hm0) ?_
  refine RW.move rfl rfl ?_
  -- mq: guard slot 13
  refine RW.casesB 13 rfl (fun h1 => ?_) (fun h1 => ?_)
  · skip
    refine RW.guardF rfl rfl rfl h1 ?_
    refine RW.guardF rfl rfl rfl h1 ?_
    refine RW.pickB rfl rfl h1 rfl ?_
    refine RW.nil (EX.seq ?_)
    -- mq: cond
    refine CW.condT rfl (rfl) ?_
    refine CW.seq (CW.region ?_)
    refine RW.call rfl ca10 rfl (fun w' _ => awake_c w') ?_
    refine RW.assign rfl rfl ?_
    refine RW.nil (EX.seq (CW.ret (EX.seqR ?_)))
    refine EX.fin1 Try.results9 rfl (fun wz hw => ?_)
    -- mq: done
    exact ⟨rfl, hw.ext⟩
  · skip
    refine RW.guardT rfl rfl h1 ?_
    -- mq: op 3: ('Op.call', ('Call.mk', ('Callee.value', ('Operand.func', '10')), ('arr',), ('arr',))) -> slot 14 ("law.go:110")
    refine RW.call rfl ca10 rfl (fun w' _ => awake_c w') ?_
    refine RW.guardT rfl rfl h1 ?_
    refine RW.not_ rfl rfl ?_
    refine RW.pickC rfl rfl h1 rfl ?_
    refine RW.nil (EX.seq ?_)
    -- mq: cond
    refine CW.condF rfl (rfl) ?_
    have hsz : n + sumLen rows ≤ 600 := by simpa using h1
    subst hl
    refine CW.skip (EX.seq (CW.seq ?_))
    -- mq: region
    refine CW.joinI (fun i : Nat × Nat => [(0, .slice A rows.length c), (1, .int .u16 (a : Int)), (5, .pointer (some ⟨g5, 0, none⟩)), (7, .pointer (some ⟨i.1, 0, none⟩)), (8, .pointer (some ⟨i.2, 0, none⟩))]) (fun i => SH w [] [blk i.1 p.enc 47, blk i.2 q.enc 47]) (fun i => w.heap.size ≤ i.1 ∧ w.heap.size ≤ i.2) ?_ ?_
    · skip
      refine CW.drawT [true, true, true, true, false, false, false, false] [4, 5, 6, 7] [[5, 4, 6, 7]] 3 (SH w [] [blk g5 [.int .i64 p.row, .int .i64 p.col, .int .i64 q.row, .int .i64 q.col] 59]) mixed (by kernel_rfl) (fun _ hw => hw.drew) (fun _ h => by first | exact h | (have h1 := h.rem Rem.head; first | exact h1 | (have h2 := h1.rem Rem.head; first | exact h2 | (have h3 := h2.rem Rem.head; exact h3)))) (by repeat (first | exact NoP.fin | exact NoP.jn | exact NoP.jnI | refine NoP.sq ?_ | refine NoP.bk ?_ | refine NoP.lp ?_)) ?_
      refine QuW.cons rfl (fun wq hq => (RW.ixArr (q := 0) Try.underlying59 ar59 rfl rfl rfl (by omega) (by omega) RW.jn)) ?_
      refine QuW.cons rfl (fun wq hq => (RW.loadA ag47 rfl rfl (rfl) (fun w1 e1 j u hj => by subst e1; exact (by rw [Addr.add_lit]; exact hq.blk_at (o := 0) (sz := 2) (vs := p.enc) Has.head rfl j u hj)) RW.jn)) ?_
      refine QuW.cons rfl (fun wq hq => (RW.ixArr (q := 1) Try.underlying59 ar59 rfl rfl rfl (by omega) (by omega) RW.jn)) ?_
      refine QuW.cons rfl (fun wq hq => (RW.loadA ag47 rfl rfl (rfl) (fun w1 e1 j u hj => by subst e1; exact (by rw [Addr.add_lit]; exact hq.blk_at (o := 2) (sz := 2) (vs := q.enc) Has.head rfl j u hj)) RW.jn)) ?_
      refine QuW.skip ?_
      refine QuW.skip ?_
      refine QuW.skip ?_
      refine QuW.skip ?_
      refine QuW.nil ?_
      refine List.forall_mem_cons.2 ⟨?_, List.forall_mem_cons.2 ⟨?_, by simp⟩⟩
      · skip
        refine SpW.soft ?_
        refine RW.allocA ag47 rfl (fun g7 hg7 hf7 => ?_)
        refine RW.sp1 (fun _ h => by first | exact h | (have h1 := h.rem Rem.head; first | exact h1 | (have h2 := h1.rem Rem.head; first | exact h2 | (have h3 := h2.rem Rem.head; exact h3)))) ?_
        refine SpW.soft ?_
        refine RW.allocA ag47 rfl (fun g8 hg8 hf8 => ?_)
        refine RW.sp1 (fun _ h => by first | exact h | (have h1 := h.rem Rem.head; first | exact h1 | (have h2 := h1.rem Rem.head; first | exact h2 | (have h3 := h2.rem Rem.head; exact h3)))) ?_
        refine SpW.soft ?_
        refine RW.storeA ag47 rfl rfl (by first | exact Upd.head | exact Upd.tail Upd.head | exact Upd.tail (Upd.tail Upd.head) | exact Upd.tail (Upd.tail (Upd.tail Upd.head)) | exact Upd.tail (Upd.tail (Upd.tail (Upd.tail Upd.head))) | exact Upd.tail (Upd.tail (Upd.tail (Upd.tail (Upd.tail Upd.head)))) | exact Upd.tail (Upd.tail (Upd.tail (Upd.tail (Upd.tail (Upd.tail Upd.head)))))) (by first | rfl | exact Enc.len _ _) (by repeat (first | exact Ones.nil | exact Enc.ones _ _ | refine Ones.cons rfl ?_)) (by first | exact Nat.le_of_ble_eq_true rfl | (simp only [Enc.len]; decide)) ?_
        refine RW.sp1 (fun _ h => by first | exact h | (have h1 := h.rem Rem.head; first | exact h1 | (have h2 := h1.rem Rem.head; first | exact h2 | (have h3 := h2.rem Rem.head; exact h3)))) ?_
        refine SpW.hard ?_
        refine RW.storeA ag47 rfl rfl (by first | exact Upd.head | exact Upd.tail Upd.head | exact Upd.tail (Upd.tail Upd.head) | exact Upd.tail (Upd.tail (Upd.tail Upd.head)) | exact Upd.tail (Upd.tail (Upd.tail (Upd.tail Upd.head))) | exact Upd.tail (Upd.tail (Upd.tail (Upd.tail (Upd.tail Upd.head)))) | exact Upd.tail (Upd.tail (Upd.tail (Upd.tail (Upd.tail (Upd.tail Upd.head)))))) (by first | rfl | exact Enc.len _ _) (by repeat (first | exact Ones.nil | exact Enc.ones _ _ | refine Ones.cons rfl ?_)) (by first | exact Nat.le_of_ble_eq_true rfl | (simp only [Enc.len]; decide)) ?_
        refine RW.nil ?_
        -- mq: joinend
        exact EX.jnI (g7, g8) ⟨hg7, hg8⟩ (by repeat (first | exact Sub.nil | refine Sub.cons (by rfl) ?_)) (fun w' hw' => (hw'.rem (Rem.tail (Rem.tail Rem.head))).swap)
      · skip
        refine SpW.soft ?_
        refine RW.allocA ag47 rfl (fun g8 hg8 hf8 => ?_)
        refine RW.sp1 (fun _ h => by first | exact h | (have h1 := h.rem Rem.head; first | exact h1 | (have h2 := h1.rem Rem.head; first | exact h2 | (have h3 := h2.rem Rem.head; exact h3)))) ?_
        refine SpW.soft ?_
        refine RW.allocA ag47 rfl (fun g7 hg7 hf7 => ?_)
        refine RW.sp1 (fun _ h => by first | exact h | (have h1 := h.rem Rem.head; first | exact h1 | (have h2 := h1.rem Rem.head; first | exact h2 | (have h3 := h2.rem Rem.head; exact h3)))) ?_
        refine SpW.soft ?_
        refine RW.storeA ag47 rfl rfl (by first | exact Upd.head | exact Upd.tail Upd.head | exact Upd.tail (Upd.tail Upd.head) | exact Upd.tail (Upd.tail (Upd.tail Upd.head)) | exact Upd.tail (Upd.tail (Upd.tail (Upd.tail Upd.head))) | exact Upd.tail (Upd.tail (Upd.tail (Upd.tail (Upd.tail Upd.head)))) | exact Upd.tail (Upd.tail (Upd.tail (Upd.tail (Upd.tail (Upd.tail Upd.head)))))) (by first | rfl | exact Enc.len _ _) (by repeat (first | exact Ones.nil | exact Enc.ones _ _ | refine Ones.cons rfl ?_)) (by first | exact Nat.le_of_ble_eq_true rfl | (simp only [Enc.len]; decide)) ?_
        refine RW.sp1 (fun _ h => by first | exact h | (have h1 := h.rem Rem.head; first | exact h1 | (have h2 := h1.rem Rem.head; first | exact h2 | (have h3 := h2.rem Rem.head; exact h3)))) ?_
        refine SpW.hard ?_
        refine RW.storeA ag47 rfl rfl (by first | exact Upd.head | exact Upd.tail Upd.head | exact Upd.tail (Upd.tail Upd.head) | exact Upd.tail (Upd.tail (Upd.tail Upd.head)) | exact Upd.tail (Upd.tail (Upd.tail (Upd.tail Upd.head))) | exact Upd.tail (Upd.tail (Upd.tail (Upd.tail (Upd.tail Upd.head)))) | exact Upd.tail (Upd.tail (Upd.tail (Upd.tail (Upd.tail (Upd.tail Upd.head)))))) (by first | rfl | exact Enc.len _ _) (by repeat (first | exact Ones.nil | exact Enc.ones _ _ | refine Ones.cons rfl ?_)) (by first | exact Nat.le_of_ble_eq_true rfl | (simp only [Enc.len]; decide)) ?_
        refine RW.nil ?_
        -- mq: joinend
        exact EX.jnI (g7, g8) ⟨hg7, hg8⟩ (by repeat (first | exact Sub.nil | refine Sub.cons (by rfl) ?_)) (fun w' hw' => hw'.rem (Rem.tail (Rem.tail Rem.head)))
    · skip
      rintro ⟨g7, g8⟩ ⟨hg7, hg8⟩
      dsimp only at hg7 hg8 ⊢
      refine EX.seq (CW.seq ?_)
      -- mq: seq
      refine CW.join ([(0, .slice A rows.length c), (1, .int .u16 (a : Int)), (7, .pointer (some ⟨g7, 0, none⟩)), (8, .pointer (some ⟨g8, 0, none⟩))]) (SH w [] [blk g7 (loP p q).enc 47, blk g8 (hiP p q).enc 47]) ?_ ?_
      · skip
        refine CW.seq (CW.region ?_)
        refine RW.fieldB fl47x0 rfl rfl ?_
        refine RW.loadB1 sc3 rfl rfl (by first | exact Has.head | exact Has.tail Has.head | exact Has.tail (Has.tail Has.head) | exact Has.tail (Has.tail (Has.tail Has.head)) | exact Has.tail (Has.tail (Has.tail (Has.tail Has.head))) | exact Has.tail (Has.tail (Has.tail (Has.tail (Has.tail Has.head)))) | exact Has.tail (Has.tail (Has.tail (Has.tail (Has.tail (Has.tail Has.head)))))) rfl ?_
        refine RW.fieldB fl47x0 rfl rfl ?_
        refine RW.loadB1 sc3 rfl rfl (by first | exact Has.head | exact Has.tail Has.head | exact Has.tail (Has.tail Has.head) | exact Has.tail (Has.tail (Has.tail Has.head)) | exact Has.tail (Has.tail (Has.tail (Has.tail Has.head))) | exact Has.tail (Has.tail (Has.tail (Has.tail (Has.tail Has.head)))) | exact Has.tail (Has.tail (Has.tail (Has.tail (Has.tail (Has.tail Has.head)))))) rfl ?_
        refine RW.lss rfl rfl rfl ?_
        refine RW.move rfl rfl ?_
        -- mq: guard slot 27
        refine RW.casesB 27 rfl (fun h26 => ?_) (fun h26 => ?_)
        · skip
          have h26p := of_decide_eq_true h26
          refine RW.guardF rfl rfl rfl h26 ?_
          refine RW.guardF rfl rfl rfl h26 ?_
          refine RW.guardF rfl rfl rfl h26 ?_
          refine RW.guardF rfl rfl rfl h26 ?_
          refine RW.guardF rfl rfl rfl h26 ?_
          refine RW.guardF rfl rfl rfl h26 ?_
          refine RW.guardU rfl rfl rfl ?_
          refine RW.guardU rfl rfl rfl ?_
          refine RW.guardU rfl rfl rfl ?_
          refine RW.guardU rfl rfl rfl ?_
          refine RW.guardU rfl rfl rfl ?_
          refine RW.guardF rfl rfl rfl h26 ?_
          refine RW.pickB rfl rfl h26 rfl ?_
          refine RW.nil (EX.seq ?_)
          -- mq: cond
          refine CW.condT rfl (rfl) ?_
          refine CW.region ?_
          refine RW.loadBA ag47 rfl rfl (by first | exact Has.head | exact Has.tail Has.head | exact Has.tail (Has.tail Has.head) | exact Has.tail (Has.tail (Has.tail Has.head)) | exact Has.tail (Has.tail (Has.tail (Has.tail Has.head))) | exact Has.tail (Has.tail (Has.tail (Has.tail (Has.tail Has.head)))) | exact Has.tail (Has.tail (Has.tail (Has.tail (Has.tail (Has.tail Has.head)))))) rfl rfl ?_
          refine RW.loadBA ag47 rfl rfl (by first | exact Has.head | exact Has.tail Has.head | exact Has.tail (Has.tail Has.head) | exact Has.tail (Has.tail (Has.tail Has.head)) | exact Has.tail (Has.tail (Has.tail (Has.tail Has.head))) | exact Has.tail (Has.tail (Has.tail (Has.tail (Has.tail Has.head)))) | exact Has.tail (Has.tail (Has.tail (Has.tail (Has.tail (Has.tail Has.head)))))) rfl rfl ?_
          refine RW.storeA ag47 rfl rfl (by first | exact Upd.head | exact Upd.tail Upd.head | exact Upd.tail (Upd.tail Upd.head) | exact Upd.tail (Upd.tail (Upd.tail Upd.head)) | exact Upd.tail (Upd.tail (Upd.tail (Upd.tail Upd.head))) | exact Upd.tail (Upd.tail (Upd.tail (Upd.tail (Upd.tail Upd.head)))) | exact Upd.tail (Upd.tail (Upd.tail (Upd.tail (Upd.tail (Upd.tail Upd.head)))))) (by first | rfl | exact Enc.len _ _) (by repeat (first | exact Ones.nil | exact Enc.ones _ _ | refine Ones.cons rfl ?_)) (by first | exact Nat.le_of_ble_eq_true rfl | (simp only [Enc.len]; decide)) ?_
          refine RW.storeA ag47 rfl rfl (by first | exact Upd.head | exact Upd.tail Upd.head | exact Upd.tail (Upd.tail Upd.head) | exact Upd.tail (Upd.tail (Upd.tail Upd.head)) | exact Upd.tail (Upd.tail (Upd.tail (Upd.tail Upd.head))) | exact Upd.tail (Upd.tail (Upd.tail (Upd.tail (Upd.tail Upd.head)))) | exact Upd.tail (Upd.tail (Upd.tail (Upd.tail (Upd.tail (Upd.tail Upd.head)))))) (by first | rfl | exact Enc.len _ _) (by repeat (first | exact Ones.nil | exact Enc.ones _ _ | refine Ones.cons rfl ?_)) (by first | exact Nat.le_of_ble_eq_true rfl | (simp only [Enc.len]; decide)) ?_
          refine RW.nil ?_
          -- mq: joinend
          have hsw : swapB p q = true := by simp [swapB, h26p]
          refine EX.jn (by repeat (first | exact Sub.nil | refine Sub.cons (by rfl) ?_)) (fun w' hw' => ?_)
          rw [loP, hiP, hsw]
          exact hw'
        · skip
          have h26p := of_decide_eq_false h26
          refine RW.guardT rfl rfl h26 ?_
          refine RW.fieldB fl47x0 rfl rfl ?_
          refine RW.guardT rfl rfl h26 ?_
          refine RW.loadB1 sc3 rfl rfl (by first | exact Has.head | exact Has.tail Has.head | exact Has.tail (Has.tail Has.head) | exact Has.tail (Has.tail (Has.tail Has.head)) | exact Has.tail (Has.tail (Has.tail (Has.tail Has.head))) | exact Has.tail (Has.tail (Has.tail (Has.tail (Has.tail Has.head)))) | exact Has.tail (Has.tail (Has.tail (Has.tail (Has.tail (Has.tail Has.head)))))) rfl ?_
          refine RW.guardT rfl rfl h26 ?_
          refine RW.fieldB fl47x0 rfl rfl ?_
          refine RW.guardT rfl rfl h26 ?_
          refine RW.loadB1 sc3 rfl rfl (by first | exact Has.head | exact Has.tail Has.head | exact Has.tail (Has.tail Has.head) | exact Has.tail (Has.tail (Has.tail Has.head)) | exact Has.tail (Has.tail (Has.tail (Has.tail Has.head))) | exact Has.tail (Has.tail (Has.tail (Has.tail (Has.tail Has.head)))) | exact Has.tail (Has.tail (Has.tail (Has.tail (Has.tail (Has.tail Has.head)))))) rfl ?_
          refine RW.guardT rfl rfl h26 ?_
          refine RW.eqlI rfl rfl rfl ?_
          refine RW.guardT rfl rfl h26 ?_
          refine RW.move rfl rfl ?_
          -- mq: guard slot 33
          refine RW.casesB 33 rfl (fun h33 => ?_) (fun h33 => ?_)
          · skip
            have h33p := of_decide_eq_true h33
            refine RW.guardT rfl rfl h33 ?_
            refine RW.fieldB fl47x1 rfl rfl ?_
            refine RW.guardT rfl rfl h33 ?_
            refine RW.loadB1 sc3 rfl rfl (by first | exact Has.head | exact Has.tail Has.head | exact Has.tail (Has.tail Has.head) | exact Has.tail (Has.tail (Has.tail Has.head)) | exact Has.tail (Has.tail (Has.tail (Has.tail Has.head))) | exact Has.tail (Has.tail (Has.tail (Has.tail (Has.tail Has.head)))) | exact Has.tail (Has.tail (Has.tail (Has.tail (Has.tail (Has.tail Has.head)))))) rfl ?_
            refine RW.guardT rfl rfl h33 ?_
            refine RW.fieldB fl47x1 rfl rfl ?_
            refine RW.guardT rfl rfl h33 ?_
            refine RW.loadB1 sc3 rfl rfl (by first | exact Has.head | exact Has.tail Has.head | exact Has.tail (Has.tail Has.head) | exact Has.tail (Has.tail (Has.tail Has.head)) | exact Has.tail (Has.tail (Has.tail (Has.tail Has.head))) | exact Has.tail (Has.tail (Has.tail (Has.tail (Has.tail Has.head)))) | exact Has.tail (Has.tail (Has.tail (Has.tail (Has.tail (Has.tail Has.head)))))) rfl ?_
            refine RW.guardT rfl rfl h33 ?_
            refine RW.lss rfl rfl rfl ?_
            refine RW.guardT rfl rfl h26 ?_
            refine RW.pickB rfl rfl h33 rfl ?_
            refine RW.pickC rfl rfl h26 rfl ?_
            refine RW.nil (EX.seq ?_)
            -- mq: cond
            first | refine CW.condD rfl (fun h38 => ?_) (fun h38 => ?_) | refine CW.cond rfl (fun h38 => ?_) (fun h38 => ?_)
            · skip
              refine CW.region ?_
              refine RW.loadBA ag47 rfl rfl (by first | exact Has.head | exact Has.tail Has.head | exact Has.tail (Has.tail Has.head) | exact Has.tail (Has.tail (Has.tail Has.head)) | exact Has.tail (Has.tail (Has.tail (Has.tail Has.head))) | exact Has.tail (Has.tail (Has.tail (Has.tail (Has.tail Has.head)))) | exact Has.tail (Has.tail (Has.tail (Has.tail (Has.tail (Has.tail Has.head)))))) rfl rfl ?_
              refine RW.loadBA ag47 rfl rfl (by first | exact Has.head | exact Has.tail Has.head | exact Has.tail (Has.tail Has.head) | exact Has.tail (Has.tail (Has.tail Has.head)) | exact Has.tail (Has.tail (Has.tail (Has.tail Has.head))) | exact Has.tail (Has.tail (Has.tail (Has.tail (Has.tail Has.head)))) | exact Has.tail (Has.tail (Has.tail (Has.tail (Has.tail (Has.tail Has.head)))))) rfl rfl ?_
              refine RW.storeA ag47 rfl rfl (by first | exact Upd.head | exact Upd.tail Upd.head | exact Upd.tail (Upd.tail Upd.head) | exact Upd.tail (Upd.tail (Upd.tail Upd.head)) | exact Upd.tail (Upd.tail (Upd.tail (Upd.tail Upd.head))) | exact Upd.tail (Upd.tail (Upd.tail (Upd.tail (Upd.tail Upd.head)))) | exact Upd.tail (Upd.tail (Upd.tail (Upd.tail (Upd.tail (Upd.tail Upd.head)))))) (by first | rfl | exact Enc.len _ _) (by repeat (first | exact Ones.nil | exact Enc.ones _ _ | refine Ones.cons rfl ?_)) (by first | exact Nat.le_of_ble_eq_true rfl | (simp only [Enc.len]; decide)) ?_
              refine RW.storeA ag47 rfl rfl (by first | exact Upd.head | exact Upd.tail Upd.head | exact Upd.tail (Upd.tail Upd.head) | exact Upd.tail (Upd.tail (Upd.tail Upd.head)) | exact Upd.tail (Upd.tail (Upd.tail (Upd.tail Upd.head))) | exact Upd.tail (Upd.tail (Upd.tail (Upd.tail (Upd.tail Upd.head)))) | exact Upd.tail (Upd.tail (Upd.tail (Upd.tail (Upd.tail (Upd.tail Upd.head)))))) (by first | rfl | exact Enc.len _ _) (by repeat (first | exact Ones.nil | exact Enc.ones _ _ | refine Ones.cons rfl ?_)) (by first | exact Nat.le_of_ble_eq_true rfl | (simp only [Enc.len]; decide)) ?_
              refine RW.nil ?_
              -- mq: joinend
              have hsw : swapB p q = true := by simp [swapB, h33p, h38]
              refine EX.jn (by repeat (first | exact Sub.nil | refine Sub.cons (by rfl) ?_)) (fun w' hw' => ?_)
              rw [loP, hiP, hsw]
              exact hw'
            · skip
              refine CW.skip ?_
              -- mq: joinend
              have hsw : swapB p q = false := by simp [swapB]; omega
              refine EX.jn (by repeat (first | exact Sub.nil | refine Sub.cons (by rfl) ?_)) (fun w' hw' => ?_)
              rw [loP, hiP, hsw]
              exact hw'
          · skip
            have h33p := of_decide_eq_false h33
            refine RW.guardF rfl rfl rfl h33 ?_
            refine RW.guardF rfl rfl rfl h33 ?_
            refine RW.guardF rfl rfl rfl h33 ?_
            refine RW.guardF rfl rfl rfl h33 ?_
            refine RW.guardF rfl rfl rfl h33 ?_
            refine RW.guardT rfl rfl h26 ?_
            refine RW.pickC rfl rfl h33 rfl ?_
            refine RW.pickC rfl rfl h26 rfl ?_
            refine RW.nil (EX.seq ?_)
            -- mq: cond
            refine CW.condF rfl (rfl) ?_
            refine CW.skip ?_
            -- mq: joinend
            have hsw : swapB p q = false := by simp [swapB]; omega
            refine EX.jn (by repeat (first | exact Sub.nil | refine Sub.cons (by rfl) ?_)) (fun w' hw' => ?_)
            rw [loP, hiP, hsw]
            exact hw'
      · skip
        obtain ⟨hlo, hhi⟩ := lo_hi64 hp hq
        have hord := lo_hi p q
        generalize loP p q = lo at *
        generalize hiP p q = hi at *
        obtain ⟨x, hx⟩ : ∃ x : Nat, x = 2 + a % 99 := ⟨_, rfl⟩
        refine EX.seq (CW.seq ?_)
        -- mq: region
        refine CW.region ?_
        refine RW.move rfl rfl ?_
        refine RW.move rfl rfl ?_
        refine RW.remN rfl rfl rfl (by omega) (by omega) ?_
        refine RW.convI rfl rfl Try.underlying57 Try.underlying3 (wrap64 (by omega) (by omega)) ?_
        refine RW.add (r := (x : Int)) rfl rfl rfl (by rw [wrap64 (by omega) (by omega)]; omega) ?_
        refine RW.loadBA ag47 rfl rfl (by first | exact Has.head | exact Has.tail Has.head | exact Has.tail (Has.tail Has.head) | exact Has.tail (Has.tail (Has.tail Has.head)) | exact Has.tail (Has.tail (Has.tail (Has.tail Has.head))) | exact Has.tail (Has.tail (Has.tail (Has.tail (Has.tail Has.head)))) | exact Has.tail (Has.tail (Has.tail (Has.tail (Has.tail (Has.tail Has.head)))))) rfl rfl ?_
        refine RW.loadBA ag47 rfl rfl (by first | exact Has.head | exact Has.tail Has.head | exact Has.tail (Has.tail Has.head) | exact Has.tail (Has.tail (Has.tail Has.head)) | exact Has.tail (Has.tail (Has.tail (Has.tail Has.head))) | exact Has.tail (Has.tail (Has.tail (Has.tail (Has.tail Has.head)))) | exact Has.tail (Has.tail (Has.tail (Has.tail (Has.tail (Has.tail Has.head)))))) rfl rfl ?_
        refine RW.buildSlc sl51 rfl rfl rfl rfl (fun g51 hg51 hf51 => ?_)
        -- mq: at
        refine RW.callA (R := fun w0 => IsReflow (outF rows x (linesL rows rows.length)) ([lo, hi].map (posF rows x)) w0) rfl ca27 rfl (fun w' hw' => (Reflow_c w' F (fun k => k = g51) A (some ⟨g51, 0, none⟩) rows.length c 2 2 rows [lo, hi] x (hr.ext hw'.ext (by simp)) (Rd.of_blk (E := EPos) (L := [lo, hi]) hw' Has.head rfl (by decide)) hsz (by omega) (by simp [hlo, hhi]) (by omega) (by omega)).mono (fun e w'' h => h.toA)) ?_
        rintro w0 w1 v hw0 he01 hw1 hlt5 ⟨A1, n1, c1, A2, n2, c2, rfl, hrd1, hrd2⟩
        have hm2 := hrd2.len
        simp only [List.map_cons, List.map_nil, List.length_cons, List.length_nil] at hm2 hrd2
        subst hm2
        have hlaw := posF_order rows x hord
        generalize posF rows x lo = u at *
        generalize posF rows x hi = v at *
        refine RW.move rfl rfl ?_
        refine RW.extract rfl rfl rfl ?_
        refine RW.extract rfl rfl rfl ?_
        refine RW.assign rfl rfl ?_
        refine RW.assign rfl rfl ?_
        refine RW.nil (EX.seq (CW.seq (CW.seq (CW.region ?_))))
        refine RW.move rfl rfl ?_
        refine RW.lenSl Try.underlying51 rfl rfl ?_
        refine RW.neqI rfl rfl rfl ?_
        refine RW.nil (EX.seq ?_)
        -- mq: cond
        refine CW.condF rfl ((by simp)) ?_
        refine CW.skip (EX.seq (CW.seq ?_))
        -- mq: draw op 3: ('Op.load', '3', ('Operand.tmp', '60')) -> slot 61 ("law.go:121")
        obtain ⟨d0, hB0, hd0, hc0⟩ := hrd2.at_ (k := 0) rfl
        obtain ⟨d1, hB1, hd1, hc1⟩ := hrd2.at_ (k := 1) rfl
        obtain rfl : d0 = d1 := Option.some.inj (hB0.symm.trans hB1)
        have hnf : ∀ k, w0.heap.size ≤ k → k ∉ feet _ := fun k hk hk2 => absurd (hlt5 k hk2) (by omega)
        rcases Int.lt_trichotomy u.row v.row with h9 | h9 | h9
        · skip
          refine CW.drawq mixed (by kernel_rfl) (fun _ hw => hw.drew) ?_
          refine DRq.cons rfl (RW.move rfl rfl RW.jn) ?_
          refine DRq.cons rfl (RW.ixAddr (q := 0) sl51 rfl rfl rfl (by first | rfl | assumption) (by omega) (by omega) RW.jn) ?_
          refine DRq.cons rfl (RW.fieldP fl47x0 rfl rfl RW.jn) ?_
          refine DRq.cons rfl (RW.load1 sc3 rfl rfl (fun w' hw' => hw'.base_cell (hc0 0 _ rfl) (by simp only [block_add]; exact hnf _ hd0)) RW.jn) ?_
          refine DRq.cons rfl (RW.move rfl rfl RW.jn) ?_
          refine DRq.cons rfl (RW.ixAddr (q := 1) sl51 rfl rfl rfl (by first | rfl | assumption) (by omega) (by omega) RW.jn) ?_
          refine DRq.cons rfl (RW.fieldP fl47x0 rfl rfl RW.jn) ?_
          refine DRq.cons rfl (RW.load1 sc3 rfl rfl (fun w' hw' => hw'.base_cell (hc1 0 _ rfl) (by simp only [block_add]; exact hnf _ hd1)) RW.jn) ?_
          refine DRq.cons rfl (RW.lss rfl rfl rfl RW.jn) ?_
          refine DRq.cons rfl (RW.move rfl rfl RW.jn) ?_
          refine DRq.cons rfl (RW.guardF rfl rfl rfl (decide_eq_true h9) RW.jn) ?_
          refine DRq.cons rfl (RW.guardF rfl rfl rfl (decide_eq_true h9) RW.jn) ?_
          refine DRq.cons rfl (RW.guardF rfl rfl rfl (decide_eq_true h9) RW.jn) ?_
          refine DRq.cons rfl (RW.guardF rfl rfl rfl (decide_eq_true h9) RW.jn) ?_
          refine DRq.cons rfl (RW.guardF rfl rfl rfl (decide_eq_true h9) RW.jn) ?_
          refine DRq.cons rfl (RW.guardF rfl rfl rfl (decide_eq_true h9) RW.jn) ?_
          refine DRq.cons rfl (RW.guardF rfl rfl rfl (decide_eq_true h9) RW.jn) ?_
          refine DRq.cons rfl (RW.guardF rfl rfl rfl (decide_eq_true h9) RW.jn) ?_
          refine DRq.cons rfl (RW.guardF rfl rfl rfl (decide_eq_true h9) RW.jn) ?_
          refine DRq.cons rfl (RW.guardF rfl rfl rfl (decide_eq_true h9) RW.jn) ?_
          refine DRq.cons rfl (RW.guardU rfl rfl rfl RW.jn) ?_
          refine DRq.cons rfl (RW.guardU rfl rfl rfl RW.jn) ?_
          refine DRq.cons rfl (RW.guardU rfl rfl rfl RW.jn) ?_
          refine DRq.cons rfl (RW.guardU rfl rfl rfl RW.jn) ?_
          refine DRq.cons rfl (RW.guardU rfl rfl rfl RW.jn) ?_
          refine DRq.cons rfl (RW.guardU rfl rfl rfl RW.jn) ?_
          refine DRq.cons rfl (RW.guardU rfl rfl rfl RW.jn) ?_
          refine DRq.cons rfl (RW.guardU rfl rfl rfl RW.jn) ?_
          refine DRq.cons rfl (RW.guardU rfl rfl rfl RW.jn) ?_
          refine DRq.cons rfl (RW.guardF rfl rfl rfl (decide_eq_true h9) RW.jn) ?_
          refine DRq.cons rfl (RW.pickB rfl rfl (decide_eq_true h9) rfl RW.jn) ?_
          refine DRq.cons rfl (RW.assign rfl rfl RW.jn) ?_
          refine DRq.nil (EX.seq (CW.ret ?_))
          refine EX.fin1 Try.results9 rfl (fun wz hw => ?_)
          -- mq: done
          exact ⟨rfl, (hw0.ext.trans0 he01).trans hw.ext (fun x hx hlt2 => by simp [feet, blk] at hx; omega)⟩
        · skip
          refine CW.drawq mixed (by kernel_rfl) (fun _ hw => hw.drew) ?_
          refine DRq.cons rfl (RW.move rfl rfl RW.jn) ?_
          refine DRq.cons rfl (RW.ixAddr (q := 0) sl51 rfl rfl rfl (by first | rfl | assumption) (by omega) (by omega) RW.jn) ?_
          refine DRq.cons rfl (RW.fieldP fl47x0 rfl rfl RW.jn) ?_
          refine DRq.cons rfl (RW.load1 sc3 rfl rfl (fun w' hw' => hw'.base_cell (hc0 0 _ rfl) (by simp only [block_add]; exact hnf _ hd0)) RW.jn) ?_
          refine DRq.cons rfl (RW.move rfl rfl RW.jn) ?_
          refine DRq.cons rfl (RW.ixAddr (q := 1) sl51 rfl rfl rfl (by first | rfl | assumption) (by omega) (by omega) RW.jn) ?_
          refine DRq.cons rfl (RW.fieldP fl47x0 rfl rfl RW.jn) ?_
          refine DRq.cons rfl (RW.load1 sc3 rfl rfl (fun w' hw' => hw'.base_cell (hc1 0 _ rfl) (by simp only [block_add]; exact hnf _ hd1)) RW.jn) ?_
          refine DRq.cons rfl (RW.lss rfl rfl rfl RW.jn) ?_
          refine DRq.cons rfl (RW.move rfl rfl RW.jn) ?_
          refine DRq.cons rfl (RW.guardT rfl rfl (decide_eq_false (by omega)) (RW.move rfl rfl RW.jn)) ?_
          refine DRq.cons rfl (RW.guardT rfl rfl (decide_eq_false (by omega)) (RW.ixAddr (q := 0) sl51 rfl rfl rfl (by first | rfl | assumption) (by omega) (by omega) RW.jn)) ?_
          refine DRq.cons rfl (RW.guardT rfl rfl (decide_eq_false (by omega)) (RW.fieldP fl47x0 rfl rfl RW.jn)) ?_
          refine DRq.cons rfl (RW.guardT rfl rfl (decide_eq_false (by omega)) (RW.load1 sc3 rfl rfl (fun w' hw' => hw'.base_cell (hc0 0 _ rfl) (by simp only [block_add]; exact hnf _ hd0)) RW.jn)) ?_
          refine DRq.cons rfl (RW.guardT rfl rfl (decide_eq_false (by omega)) (RW.move rfl rfl RW.jn)) ?_
          refine DRq.cons rfl (RW.guardT rfl rfl (decide_eq_false (by omega)) (RW.ixAddr (q := 1) sl51 rfl rfl rfl (by first | rfl | assumption) (by omega) (by omega) RW.jn)) ?_
          refine DRq.cons rfl (RW.guardT rfl rfl (decide_eq_false (by omega)) (RW.fieldP fl47x0 rfl rfl RW.jn)) ?_
          refine DRq.cons rfl (RW.guardT rfl rfl (decide_eq_false (by omega)) (RW.load1 sc3 rfl rfl (fun w' hw' => hw'.base_cell (hc1 0 _ rfl) (by simp only [block_add]; exact hnf _ hd1)) RW.jn)) ?_
          refine DRq.cons rfl (RW.guardT rfl rfl (decide_eq_false (by omega)) (RW.eqlI rfl rfl rfl RW.jn)) ?_
          refine DRq.cons rfl (RW.guardT rfl rfl (decide_eq_false (by omega)) (RW.move rfl rfl RW.jn)) ?_
          refine DRq.cons rfl (RW.guardT rfl rfl (decide_eq_true h9) (RW.move rfl rfl RW.jn)) ?_
          refine DRq.cons rfl (RW.guardT rfl rfl (decide_eq_true h9) (RW.ixAddr (q := 0) sl51 rfl rfl rfl (by first | rfl | assumption) (by omega) (by omega) RW.jn)) ?_
          refine DRq.cons rfl (RW.guardT rfl rfl (decide_eq_true h9) (RW.fieldP fl47x1 rfl rfl RW.jn)) ?_
          refine DRq.cons rfl (RW.guardT rfl rfl (decide_eq_true h9) (RW.load1 sc3 rfl rfl (fun w' hw' => hw'.base_cell (hc0 1 _ rfl) (by simp only [block_add]; exact hnf _ hd0)) RW.jn)) ?_
          refine DRq.cons rfl (RW.guardT rfl rfl (decide_eq_true h9) (RW.move rfl rfl RW.jn)) ?_
          refine DRq.cons rfl (RW.guardT rfl rfl (decide_eq_true h9) (RW.ixAddr (q := 1) sl51 rfl rfl rfl (by first | rfl | assumption) (by omega) (by omega) RW.jn)) ?_
          refine DRq.cons rfl (RW.guardT rfl rfl (decide_eq_true h9) (RW.fieldP fl47x1 rfl rfl RW.jn)) ?_
          refine DRq.cons rfl (RW.guardT rfl rfl (decide_eq_true h9) (RW.load1 sc3 rfl rfl (fun w' hw' => hw'.base_cell (hc1 1 _ rfl) (by simp only [block_add]; exact hnf _ hd1)) RW.jn)) ?_
          refine DRq.cons rfl (RW.guardT rfl rfl (decide_eq_true h9) (RW.leq rfl rfl rfl RW.jn)) ?_
          refine DRq.cons rfl (RW.guardT rfl rfl (decide_eq_false (by omega)) (RW.pickB rfl rfl (decide_eq_true h9) rfl RW.jn)) ?_
          refine DRq.cons rfl (RW.pickC rfl rfl (decide_eq_false (by omega)) rfl RW.jn) ?_
          refine DRq.cons rfl (RW.assign rfl rfl RW.jn) ?_
          refine DRq.nil (EX.seq (CW.ret ?_))
          refine EX.fin1 Try.results9 rfl (fun wz hw => ?_)
          -- mq: done
          have h10 : u.col ≤ v.col := by rcases hlaw with h | h <;> omega
          refine ⟨?_, (hw0.ext.trans0 he01).trans hw.ext (fun x hx hlt2 => by simp [feet, blk] at hx; omega)⟩
          rw [decide_eq_true h10]
        · exfalso
          rcases hlaw with h | h <;> omega
section
variable {H : Type} {enc : TypeId × Value → H} {w : World} {base : Nat} {spare : Nat → Bool} {held : Bool}
theorem pos2_of {P : Program} {cs : List Value} (h : Fits enc P w base spare held [.int .i64, .int .i64, .int .i64, .int .i64] cs) : ∃ a : PosV × PosV, [Value.int .i64 a.1.row, .int .i64 a.1.col, .int .i64 a.2.row, .int .i64 a.2.col] = cs ∧ Pos64 a.1 ∧ Pos64 a.2 := by
  obtain ⟨_, _, rfl, ⟨r, rfl, h1⟩, h2⟩ := h.cons
  obtain ⟨_, _, rfl, ⟨s, rfl, h3⟩, h4⟩ := h2.cons
  obtain ⟨_, _, rfl, ⟨t, rfl, h5⟩, h6⟩ := h4.cons
  obtain ⟨_, _, rfl, ⟨u, rfl, h7⟩, h8⟩ := h6.cons
  obtain rfl := h8.nil'
  exact ⟨(⟨r, s⟩, ⟨t, u⟩), rfl, ⟨wf64 h1, wf64 h3⟩, wf64 h5, wf64 h7⟩
end
end Go.Proofs.Ytmdmdlfdijdhgaa.Mq
