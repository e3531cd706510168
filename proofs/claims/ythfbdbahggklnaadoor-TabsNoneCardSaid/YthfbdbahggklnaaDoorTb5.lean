/- tabs: the reference; Ints -/
import Derived.Test.YthfbdbahggklnaaDoorTb4
namespace Go.Proofs.YthfbdbahggklnaaDoor.Mq
open Go Go.RowKit Go.Proofs

def EB : Enc Bool := ⟨fun p => [.bool p], 1, fun _ => rfl, fun _ => Ones.cons rfl Ones.nil⟩
def sizeTo (bs : List Bool) (k : Nat) : List Bool := (List.range k).map (fun x => if x < bs.length then gb bs x else decide (x % 8 = 0))
theorem sizeTo_succ (bs : List Bool) (k : Nat) : sizeTo bs (k + 1) = sizeTo bs k ++ [if k < bs.length then gb bs k else decide (k % 8 = 0)] := by
  unfold sizeTo
  rw [List.range_succ, List.map_append]
  rfl
theorem sizeTo_len (bs : List Bool) (k : Nat) : (sizeTo bs k).length = k := by simp [sizeTo]
theorem refSize_c (w : World) (F : Nat → Prop) (A : Option Addr) (m c : Nat) (bs : List Bool) (hr : Rd EB w F A m c bs) (n : Nat) (hn : n ≤ 1000) :
    Calls Tryd.prog 18 [.slice A m c, .int .i64 (n : Int)].toArray w (RetSl EB w (sizeB bs n)) := by
  have hlen := hr.len
  refine calls (n := 30) Tryd.func18 rfl Tryd.ntmps18 rfl ?_
  refine CW.sub (H' := SH w [] []) ?_ (Sub.refl _) (fun x hx => SH.start' _ _ hx)
  refine CW.seq (CW.region ?_)
  refine RW.assign rfl rfl ?_
  refine RW.nil (EX.seq (CW.seq (CW.region ?_)))
  refine RW.assign rfl rfl ?_
  refine RW.nil (EX.seq (CW.seq (CW.seq ?_)))
  -- mq: region
  refine CW.ownNil 4 1 ?_
  refine CW.region ?_
  refine RW.assign rfl rfl ?_
  refine RW.nil (EX.seq (CW.block ?_))
  -- mq: loop
  refine CW.loop (ι := Nat × Value) (fun k => [(0, .slice A m c), (1, .int .i64 (n : Int)), (5, k.2), (6, .int .i64 (k.1 : Int))]) (fun k => SH w [] [own 4 1 k.2 k.1 (EB.all (sizeTo bs k.1))]) (fun k => k.1 ≤ n ∧ ∀ g, k.2.ownBlock = some g → w.heap.size ≤ g) (fun k => n - k.1) ?_ ?_
  · exact fun w hw => ⟨(0, .slice none 0 0), ⟨by omega, by simp [Value.ownBlock]⟩, (by repeat (first | exact Sub.nil | refine Sub.cons (by rfl) ?_)), hw⟩
  · rintro ⟨k, v⟩ ⟨hk, hv⟩
    dsimp only at hk hv ⊢
    have hs := sizeTo_succ bs k
    have hsl := sizeTo_len bs k
    refine CW.seq (CW.seq (CW.region ?_))
    refine RW.move rfl rfl ?_
    refine RW.move rfl rfl ?_
    refine RW.lss rfl rfl rfl ?_
    refine RW.nil (EX.seq ?_)
    -- mq: cond
    first | refine CW.condD rfl (fun hlt => ?_) (fun hlt => ?_) | refine CW.cond rfl (fun hlt => ?_) (fun hlt => ?_)
    · skip
      refine CW.skip (EX.seq (CW.seq (CW.block (CW.seq (CW.region ?_)))))
      refine RW.move rfl rfl ?_
      refine RW.move rfl rfl ?_
      refine RW.lenSl Tryd.underlying35 rfl rfl ?_
      refine RW.lss rfl rfl rfl ?_
      refine RW.nil (EX.seq ?_)
      -- mq: cond
      first | refine CW.condD rfl (fun h2 => ?_) (fun h2 => ?_) | refine CW.cond rfl (fun h2 => ?_) (fun h2 => ?_)
      · skip
        have h2' : k < bs.length := by omega
        rw [if_pos h2'] at hs
        obtain ⟨ad, hA, _, hcell⟩ := hr.at_ (gb_get h2')
        refine CW.region ?_
        refine RW.move rfl rfl ?_
        refine RW.move rfl rfl ?_
        refine RW.move rfl rfl ?_
        refine RW.ixAddr (q := k) sl35 rfl rfl rfl hA (by omega) (by omega) ?_
        refine RW.load1 sc4 rfl rfl (fun w' hw' => hw'.base_cell (hcell 0 _ rfl) (by simp)) ?_
        refine RW.buildSlc sl35 rfl rfl rfl rfl (fun g21 hg21 hf21 => ?_)
        refine RW.append1 sl35 rfl rfl rfl (by first | exact Rem.head | exact Rem.tail Rem.head | exact Rem.tail (Rem.tail Rem.head) | exact Rem.tail (Rem.tail (Rem.tail Rem.head)) | exact Rem.tail (Rem.tail (Rem.tail (Rem.tail Rem.head))) | exact Rem.tail (Rem.tail (Rem.tail (Rem.tail (Rem.tail Rem.head)))) | exact Rem.tail (Rem.tail (Rem.tail (Rem.tail (Rem.tail (Rem.tail Rem.head)))))) (fun _ => by first | exact Upd.head | exact Upd.tail Upd.head | exact Upd.tail (Upd.tail Upd.head) | exact Upd.tail (Upd.tail (Upd.tail Upd.head)) | exact Upd.tail (Upd.tail (Upd.tail (Upd.tail Upd.head))) | exact Upd.tail (Upd.tail (Upd.tail (Upd.tail (Upd.tail Upd.head)))) | exact Upd.tail (Upd.tail (Upd.tail (Upd.tail (Upd.tail (Upd.tail Upd.head)))))) rfl (by repeat (first | exact Ones.nil | exact Enc.ones _ _ | refine Ones.cons rfl ?_)) (by simp only [maxLen]; omega) (by omega) (fun v22 hv22 => ?_)
        refine RW.assign rfl rfl ?_
        refine RW.nil (EX.bkN (EX.seq (CW.region ?_)))
        refine RW.move rfl rfl ?_
        refine RW.add rfl rfl rfl (wrap64 (by omega) (by omega)) ?_
        refine RW.assign rfl rfl ?_
        refine RW.nil ?_
        -- mq: loopend
        refine EX.lpN (k + 1, v22) ⟨by dsimp only; omega, fun g hg => by
            rcases hv22 g hg with h | h
            · exact hv g h
            · exact h.1⟩ (by dsimp only; omega) (by repeat (first | exact Sub.nil | refine Sub.cons (by rfl) ?_)) (fun w' hw' => ?_)
        dsimp only
        rw [hs, Enc.all_snoc]
        exact hw'
      · skip
        rw [if_neg (by omega)] at hs
        have h8 : decide ((k : Int) % 8 = 0) = decide (k % 8 = 0) := decide_eq_decide.2 (by omega)
        refine CW.region ?_
        refine RW.move rfl rfl ?_
        refine RW.move rfl rfl ?_
        refine RW.remN rfl rfl rfl (by omega) (by omega) ?_
        refine RW.eqlI rfl rfl rfl ?_
        refine RW.buildSlc sl35 rfl rfl rfl rfl (fun g27 hg27 hf27 => ?_)
        refine RW.append1 sl35 rfl rfl rfl (by first | exact Rem.head | exact Rem.tail Rem.head | exact Rem.tail (Rem.tail Rem.head) | exact Rem.tail (Rem.tail (Rem.tail Rem.head)) | exact Rem.tail (Rem.tail (Rem.tail (Rem.tail Rem.head))) | exact Rem.tail (Rem.tail (Rem.tail (Rem.tail (Rem.tail Rem.head)))) | exact Rem.tail (Rem.tail (Rem.tail (Rem.tail (Rem.tail (Rem.tail Rem.head)))))) (fun _ => by first | exact Upd.head | exact Upd.tail Upd.head | exact Upd.tail (Upd.tail Upd.head) | exact Upd.tail (Upd.tail (Upd.tail Upd.head)) | exact Upd.tail (Upd.tail (Upd.tail (Upd.tail Upd.head))) | exact Upd.tail (Upd.tail (Upd.tail (Upd.tail (Upd.tail Upd.head)))) | exact Upd.tail (Upd.tail (Upd.tail (Upd.tail (Upd.tail (Upd.tail Upd.head)))))) rfl (by repeat (first | exact Ones.nil | exact Enc.ones _ _ | refine Ones.cons rfl ?_)) (by simp only [maxLen]; omega) (by omega) (fun v28 hv28 => ?_)
        refine RW.assign rfl rfl ?_
        refine RW.nil (EX.bkN (EX.seq (CW.region ?_)))
        refine RW.move rfl rfl ?_
        refine RW.add rfl rfl rfl (wrap64 (by omega) (by omega)) ?_
        refine RW.assign rfl rfl ?_
        refine RW.nil ?_
        -- mq: loopend
        refine EX.lpN (k + 1, v28) ⟨by dsimp only; omega, fun g hg => by
            rcases hv28 g hg with h | h
            · exact hv g h
            · exact h.1⟩ (by dsimp only; omega) (by repeat (first | exact Sub.nil | refine Sub.cons (by rfl) ?_)) (fun w' hw' => ?_)
        dsimp only
        rw [hs, Enc.all_snoc, ← h8]
        exact hw'
    · skip
      obtain rfl : k = n := by omega
      refine CW.exit (EX.seqE (EX.lpE (EX.bkE (EX.seq (CW.seq (CW.region ?_))))))
      refine RW.move rfl rfl ?_
      refine RW.assign rfl rfl ?_
      refine RW.nil (EX.seq (CW.ret ?_))
      refine EX.fin1 Tryd.results18 rfl (fun wz hw => ?_)
      -- mq: done
      exact RetSl.of_own hw.ext (hw.has Has.head) (sizeTo_len _ _) hv
theorem refFirst_c (w : World) (n : Nat) (hn : n ≤ 1000) : Calls Tryd.prog 14 [.int .i64 (n : Int)].toArray w (RetSl EB w (sizeB [] n)) := by
  refine calls (n := 6) Tryd.func14 rfl Tryd.ntmps14 rfl ?_
  refine CW.sub (H' := SH w [] []) ?_ (Sub.refl _) (fun x hx => SH.start' _ _ hx)
  refine CW.seq (CW.region ?_)
  refine RW.assign rfl rfl ?_
  refine RW.nil (EX.seq (CW.seq (CW.region ?_)))
  refine RW.buildSl0 sl35 rfl (fun g3 hg3 hf3 => ?_)
  refine RW.move rfl rfl ?_
  -- mq: op 2: ('Op.call', ('Call.mk', ('Callee.value', ('Operand.func', '18')), ('arr', ('Operand.tmp', '3'), ('Operand.tmp', '4')), ('arr', '35', '3'))) -> slot 5 ("ref.go:8")
  refine RW.callK rfl ca18 rfl (fun w' hw' => refSize_c w' (fun _ => True) _ 0 0 [] (Rd.nil _ _ _ _ (by decide) _) n hn) (fun w3 w4 A4 n4 c4 hw3 he34 hw4 hlt4 hrd4 => ?_)
  refine RW.assign rfl rfl ?_
  refine RW.nil (EX.seq (CW.ret ?_))
  refine EX.fin1 Tryd.results14 rfl (fun wz hw => ?_)
  -- mq: done
  have h0 := hw3.ext.size
  exact ⟨A4, n4, c4, rfl, ((hw.unbase (hw3.ext.trans0 he34) hw3.cov).ext), (hrd4.ext hw.ext (fun k hk hk2 => by have := hlt4 k hk2; omega)).weak (fun k hk => by omega)⟩
theorem refWith_c (w : World) (F : Nat → Prop) (A : Option Addr) (m c : Nat) (bs : List Bool) (hr : Rd EB w F A m c bs) (hm : m ≤ 1000) (x : Int) (on : Bool) :
    Calls Tryd.prog 15 [.slice A m c, .int .i64 x, .bool on].toArray w (RetSl EB w (withB bs x on)) := by
  have hlen := hr.len
  refine calls (n := 24) Tryd.func15 rfl Tryd.ntmps15 rfl ?_
  refine CW.sub (H' := SH w [] []) ?_ (Sub.refl _) (fun x hx => SH.start' _ _ hx)
  refine CW.seq (CW.region ?_)
  refine RW.assign rfl rfl ?_
  refine RW.nil (EX.seq (CW.seq (CW.region ?_)))
  refine RW.buildSl0 sl35 rfl (fun g8 hg8 hf8 => ?_)
  refine RW.move rfl rfl ?_
  -- mq: op 2: ('Op.call', ('Call.mk', ('Callee.builtin', 'Builtin.append'), ('arr', ('Operand.tmp', '8'), ('Operand.tmp', '9')), ('arr', '35', '35'))) -> slot 10 ("ref.go:25")
  refine RW.ownBlk 0 rfl (e := 4) (sz := 1) (m := 0) (g := g8) (xs := []) (by first | exact Upd.head | exact Upd.tail Upd.head | exact Upd.tail (Upd.tail Upd.head) | exact Upd.tail (Upd.tail (Upd.tail Upd.head)) | exact Upd.tail (Upd.tail (Upd.tail (Upd.tail Upd.head))) | exact Upd.tail (Upd.tail (Upd.tail (Upd.tail (Upd.tail Upd.head)))) | exact Upd.tail (Upd.tail (Upd.tail (Upd.tail (Upd.tail (Upd.tail Upd.head)))))) rfl (by decide) ?_
  refine RW.appendSl (E := EB) sl35 rfl rfl rfl (fun _ => by first | exact Upd.head | exact Upd.tail Upd.head | exact Upd.tail (Upd.tail Upd.head) | exact Upd.tail (Upd.tail (Upd.tail Upd.head)) | exact Upd.tail (Upd.tail (Upd.tail (Upd.tail Upd.head))) | exact Upd.tail (Upd.tail (Upd.tail (Upd.tail (Upd.tail Upd.head)))) | exact Upd.tail (Upd.tail (Upd.tail (Upd.tail (Upd.tail (Upd.tail Upd.head)))))) (fun w' hw' => hr.ext hw'.ext (by simp)) (by simp only [maxLen]; omega) (by omega) (fun v10 hv10 => ?_)
  refine RW.formOwn Has.head (fun A10 c10 he10 hmc10 _ _ hf10 => ?_)
  subst he10
  have hfr : ∀ g, A10.map (·.block) = some g → w.heap.size ≤ g := fun g hg => by
    rcases hv10 g (by cases A10 with | none => simp at hg | some a => simpa [Value.ownBlock] using hg) with h | h
    · simp [Value.ownBlock] at h; omega
    · exact h.1
  refine RW.assign rfl rfl ?_
  refine RW.nil (EX.seq (CW.seq ?_))
  -- mq: seq
  refine CW.join ([(7, .slice A10 (0 + m) c10)]) (SH w [] [own 4 1 (.slice A10 (0 + m) c10) (0 + m) (EB.all (withB bs x on))]) ?_ ?_
  · skip
    refine CW.seq (CW.region ?_)
    refine RW.move rfl rfl ?_
    refine RW.geq rfl rfl rfl ?_
    refine RW.move rfl rfl ?_
    -- mq: guard slot 13
    refine RW.casesB 13 rfl (fun h0 => ?_) (fun h0 => ?_)
    · skip
      have h0p := of_decide_eq_true h0
      refine RW.guardT rfl rfl h0 ?_
      refine RW.move rfl rfl ?_
      refine RW.guardT rfl rfl h0 ?_
      refine RW.move rfl rfl ?_
      refine RW.guardT rfl rfl h0 ?_
      refine RW.lenSl Tryd.underlying35 rfl rfl ?_
      refine RW.guardT rfl rfl h0 ?_
      refine RW.lss rfl rfl rfl ?_
      refine RW.pickB rfl rfl h0 rfl ?_
      refine RW.nil (EX.seq ?_)
      -- mq: cond
      first | refine CW.condD rfl (fun h1 => ?_) (fun h1 => ?_) | refine CW.cond rfl (fun h1 => ?_) (fun h1 => ?_)
      · skip
        obtain ⟨y, rfl⟩ : ∃ y : Nat, x = (y : Int) := ⟨x.toNat, by omega⟩
        have hy : y < bs.length := by omega
        obtain ⟨a, ha⟩ := hf10 (by omega)
        subst ha
        have hset := EB.all_set (j := 0) (a' := on) (v := .bool on) (gb_get hy) (by decide) rfl
        rw [show y * EB.sz + 0 = y by simp [EB]] at hset
        refine CW.region ?_
        refine RW.move rfl rfl ?_
        refine RW.move rfl rfl ?_
        refine RW.move rfl rfl ?_
        refine RW.ixAddr (q := y) sl35 rfl rfl rfl (by first | rfl | assumption) (by omega) (by omega) ?_
        refine RW.storeOwn1 (o := y) sc4 rfl rfl (by first | exact Upd.head | exact Upd.tail Upd.head | exact Upd.tail (Upd.tail Upd.head) | exact Upd.tail (Upd.tail (Upd.tail Upd.head)) | exact Upd.tail (Upd.tail (Upd.tail (Upd.tail Upd.head))) | exact Upd.tail (Upd.tail (Upd.tail (Upd.tail (Upd.tail Upd.head)))) | exact Upd.tail (Upd.tail (Upd.tail (Upd.tail (Upd.tail (Upd.tail Upd.head)))))) (by simp [Addr.add_lit]) rfl (by simp only [List.nil_append, EB.all_length]; show y < bs.length * 1; omega) ?_
        refine RW.nil ?_
        -- mq: joinend
        have hwb : withB bs (y : Int) on = bs.set y on := by unfold withB; rw [if_pos (by omega), Int.toNat_natCast]
        rw [hwb, ← hset]
        exact EX.jn (by repeat (first | exact Sub.nil | refine Sub.cons (by rfl) ?_)) (fun _ h => h)
      · skip
        rw [withB_out (by omega)]
        refine CW.skip ?_
        -- mq: joinend
        exact EX.jn (by repeat (first | exact Sub.nil | refine Sub.cons (by rfl) ?_)) (fun _ h => h)
    · skip
      have h0p := of_decide_eq_false h0
      refine RW.guardF rfl rfl rfl h0 ?_
      refine RW.guardF rfl rfl rfl h0 ?_
      refine RW.guardF rfl rfl rfl h0 ?_
      refine RW.guardF rfl rfl rfl h0 ?_
      refine RW.pickC rfl rfl h0 rfl ?_
      refine RW.nil (EX.seq ?_)
      -- mq: cond
      refine CW.condF rfl (rfl) ?_
      rw [withB_out (by omega)]
      refine CW.skip ?_
      -- mq: joinend
      exact EX.jn (by repeat (first | exact Sub.nil | refine Sub.cons (by rfl) ?_)) (fun _ h => h)
  · skip
    refine EX.seq (CW.seq (CW.region ?_))
    refine RW.move rfl rfl ?_
    refine RW.assign rfl rfl ?_
    refine RW.nil (EX.seq (CW.ret ?_))
    refine EX.fin1 Tryd.results15 rfl (fun wz hw => ?_)
    -- mq: done
    exact RetSl.of_own hw.ext (hw.has Has.head) (by rw [withB_len]; omega) (fun g hg => hfr g (by cases A10 with | none => simp [Value.ownBlock] at hg | some a => simpa [Value.ownBlock] using hg))
end Go.Proofs.YthfbdbahggklnaaDoor.Mq
