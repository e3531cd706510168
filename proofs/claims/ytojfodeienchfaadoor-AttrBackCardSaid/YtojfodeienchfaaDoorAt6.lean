/- attributes: walks of byte3, inside -/
import Derived.Test.YtojfodeienchfaaDoorAt5
namespace Go.Proofs.YtojfodeienchfaaDoor.Mq
open Go Go.RowKit Go.Proofs

def accF (L : List Int) : Nat := L.foldl (fun n x => n * 256 + (max 0 x).toNat) 0
def b3 (L : List Int) : Option (Int × Int) := if ∀ x ∈ L, x ≤ 255 then some (if L.length = 1 then 1 else 2, (accF L : Int)) else none
abbrev tupC (o : Option (Int × Int)) : List Value := [colV (o.getD (0, 0)).1 (o.getD (0, 0)).2, .bool o.isSome]
theorem accF_snoc (L : List Int) (x : Int) : accF (L ++ [x]) = accF L * 256 + (max 0 x).toNat := by simp [accF]
theorem or256 {a b : Nat} (hb : b < 256) : a * 256 ||| b = a * 256 + b := by
  have := Nat.two_pow_add_eq_or_of_lt (i := 8) (a := a) (b := b) hb
  rw [show (2 : Nat) ^ 8 = 256 by rfl, Nat.mul_comm] at this
  exact this.symm
theorem byte3_c (w : World) (F : Nat → Prop) (A : Option Addr) (n c : Nat) (L : List Int) (hr : Rd EInt w F A n c L) (hn : n ≤ 3) :
    Calls Tryd.prog 34 [.slice A n c].toArray w (fun e w' => e = .returned (.tuple (tupC (b3 L)).toArray) ∧ Ext [] w w') := by
  have hl := hr.len
  refine calls (n := 29) Tryd.func34 rfl Tryd.ntmps34 rfl ?_
  refine CW.sub (H' := SH w [] []) ?_ (Sub.refl _) (fun x hx => SH.start' _ _ hx)
  refine CW.seq (CW.region ?_)
  refine RW.allocA ag23 rfl (fun g2 hg2 hf2 => ?_)
  refine RW.assign rfl rfl ?_
  refine RW.nil (EX.seq (CW.seq (CW.region ?_)))
  refine RW.assign rfl rfl ?_
  refine RW.nil (EX.seq (CW.seq (CW.seq (CW.region ?_))))
  refine RW.move rfl rfl ?_
  refine RW.lenSl Tryd.underlying40 rfl rfl ?_
  refine RW.move rfl rfl ?_
  refine RW.nil (EX.seq (CW.block ?_))
  -- mq: loop
  refine CW.loop (ι := Nat) (fun k => [(0, .slice A n c), (2, .pointer (some ⟨g2, 0, none⟩)), (4, .int .i64 (accF (L.take k) : Int)), (7, .slice A n c), (8, .int .i64 (n : Int)), (9, .int .i64 (k : Int))]) (fun _ => SH w [] [blk g2 [.int .i64 0, .int .i64 0] 23]) (fun k => k ≤ n ∧ (∀ x ∈ L.take k, x ≤ 255) ∧ accF (L.take k) < 256 ^ k) (fun k => n - k) ?_ ?_
  · exact fun w hw => ⟨0, ⟨Nat.zero_le _, by simp, by simp [accF]⟩, (by repeat (first | exact Sub.nil | refine Sub.cons (by rfl) ?_)), hw⟩
  · rintro k ⟨hk, hall, hacc⟩
    refine CW.seq (CW.region ?_)
    refine RW.lss rfl rfl rfl ?_
    refine RW.nil (EX.seq (CW.seq ?_))
    -- mq: cond
    first | refine CW.condD rfl (fun hlt => ?_) (fun hlt => ?_) | refine CW.cond rfl (fun hlt => ?_) (fun hlt => ?_)
    · skip
      obtain ⟨x, hx⟩ : ∃ x, L[k]? = some x := ⟨L[k]'(by omega), List.getElem?_eq_getElem _⟩
      obtain ⟨yd, hB, _, hycell⟩ := hr.at_ hx
      have ht := take_snoc' hx
      refine CW.skip (EX.seq (CW.seq (CW.block (CW.seq (CW.region ?_)))))
      refine RW.ixAddr (q := k) sl40 rfl rfl rfl (by first | rfl | assumption) (by omega) (by omega) ?_
      refine RW.load1 sc3 rfl rfl (fun w' hw' => hw'.base_cell (hycell 0 _ rfl) (by simp [feet])) ?_
      refine RW.assign rfl rfl ?_
      refine RW.nil (EX.seq (CW.seq (CW.seq (CW.region ?_))))
      refine RW.move rfl rfl ?_
      refine RW.gtr rfl rfl rfl ?_
      refine RW.nil (EX.seq ?_)
      -- mq: cond
      first | refine CW.condD rfl (fun h1 => ?_) (fun h1 => ?_) | refine CW.cond rfl (fun h1 => ?_) (fun h1 => ?_)
      · skip
        refine CW.seq (CW.region ?_)
        refine RW.buildS bu23 rfl rfl rfl ?_
        refine RW.storeA ag23 rfl rfl (by first | exact Upd.head | exact Upd.tail Upd.head | exact Upd.tail (Upd.tail Upd.head) | exact Upd.tail (Upd.tail (Upd.tail Upd.head)) | exact Upd.tail (Upd.tail (Upd.tail (Upd.tail Upd.head))) | exact Upd.tail (Upd.tail (Upd.tail (Upd.tail (Upd.tail Upd.head)))) | exact Upd.tail (Upd.tail (Upd.tail (Upd.tail (Upd.tail (Upd.tail Upd.head)))))) (by first | rfl | exact Enc.len _ _) (by repeat (first | exact Ones.nil | exact Enc.ones _ _ | refine Ones.cons rfl ?_)) (by first | exact Nat.le_of_ble_eq_true rfl | (simp only [Enc.len]; decide)) ?_
        refine RW.assign rfl rfl ?_
        refine RW.nil (EX.seq (CW.ret (EX.seqR (EX.bkR (EX.seqR (EX.lpR (EX.bkR (EX.seqR ?_))))))))
        refine EX.fin2' Tryd.results34 (RV.cellA ag23 rfl (by first | exact Has.head | exact Has.tail Has.head | exact Has.tail (Has.tail Has.head) | exact Has.tail (Has.tail (Has.tail Has.head)) | exact Has.tail (Has.tail (Has.tail (Has.tail Has.head))) | exact Has.tail (Has.tail (Has.tail (Has.tail (Has.tail Has.head)))) | exact Has.tail (Has.tail (Has.tail (Has.tail (Has.tail (Has.tail Has.head)))))) rfl rfl) (RV.tmp rfl) (fun wz hw => ?_)
        -- mq: done
        refine ⟨?_, hw.ext⟩
        rw [b3, if_neg (fun h => absurd (h x (List.mem_of_getElem? hx)) (by omega))]
        rfl
      · skip
        have hb : accF (L.take k) < 65536 := by
          have : k ≤ 2 := by omega
          refine Nat.lt_of_lt_of_le hacc ?_
          exact Nat.le_trans (Nat.pow_le_pow_right (by decide) this) (by decide)
        have hm : (max 0 x).toNat < 256 := by omega
        have hs := accF_snoc (L.take k) x
        rw [← ht] at hs
        refine CW.skip (EX.seq (CW.region ?_))
        refine RW.move rfl rfl ?_
        refine RW.shlN (r := ((accF (L.take k) * 256 : Nat) : Int)) rfl rfl rfl (by decide) (by rw [show min (8 : Int).toNat IntKind.i64.bits = 8 by rfl, show (2 : Int) ^ 8 = 256 by rfl, wrapI64 (by omega) (by omega)]; omega) ?_
        refine RW.move rfl rfl ?_
        refine RW.max2 rfl rfl rfl ?_
        refine RW.or_ (r := (accF (L.take (k + 1)) : Int)) rfl rfl rfl (or_eq (m := accF (L.take k) * 256) (n := (max 0 x).toNat) rfl (by omega) (show _ < 18446744073709551616 by omega) (show _ < 18446744073709551616 by omega) (by rw [or256 hm, hs, wrapI64 (by omega) (by omega)])) ?_
        refine RW.assign rfl rfl ?_
        refine RW.nil (EX.bkN (EX.seq (CW.region ?_)))
        refine RW.add rfl rfl rfl (wrap64 (by omega) (by omega)) ?_
        refine RW.move rfl rfl ?_
        refine RW.nil ?_
        -- mq: loopend
        refine EX.lpN (k + 1) ⟨by omega, fun y hy => ?_, ?_⟩ (by omega) (by repeat (first | exact Sub.nil | refine Sub.cons (by rfl) ?_)) (fun w' hw' => hw')
        · rw [ht] at hy
          rcases List.mem_append.1 hy with h | h
          · exact hall y h
          · rw [List.mem_singleton.1 h]; omega
        · rw [hs, Nat.pow_succ]; omega
    · skip
      have e : L.take k = L := List.take_of_length_le (by omega)
      rw [e] at hall hacc ⊢
      refine CW.exit (EX.seqE (EX.lpE (EX.bkE (EX.seq (CW.seq (CW.seq (CW.region ?_)))))))
      refine RW.move rfl rfl ?_
      refine RW.lenSl Tryd.underlying40 rfl rfl ?_
      refine RW.eqlI rfl rfl rfl ?_
      refine RW.nil (EX.seq ?_)
      -- mq: cond
      first | refine CW.condD rfl (fun h1 => ?_) (fun h1 => ?_) | refine CW.cond rfl (fun h1 => ?_) (fun h1 => ?_)
      · skip
        refine CW.seq (CW.region ?_)
        refine RW.move rfl rfl ?_
        refine RW.buildS bu23 rfl rfl rfl ?_
        refine RW.storeA ag23 rfl rfl (by first | exact Upd.head | exact Upd.tail Upd.head | exact Upd.tail (Upd.tail Upd.head) | exact Upd.tail (Upd.tail (Upd.tail Upd.head)) | exact Upd.tail (Upd.tail (Upd.tail (Upd.tail Upd.head))) | exact Upd.tail (Upd.tail (Upd.tail (Upd.tail (Upd.tail Upd.head)))) | exact Upd.tail (Upd.tail (Upd.tail (Upd.tail (Upd.tail (Upd.tail Upd.head)))))) (by first | rfl | exact Enc.len _ _) (by repeat (first | exact Ones.nil | exact Enc.ones _ _ | refine Ones.cons rfl ?_)) (by first | exact Nat.le_of_ble_eq_true rfl | (simp only [Enc.len]; decide)) ?_
        refine RW.assign rfl rfl ?_
        refine RW.nil (EX.seq (CW.ret (EX.seqR ?_)))
        refine EX.fin2' Tryd.results34 (RV.cellA ag23 rfl (by first | exact Has.head | exact Has.tail Has.head | exact Has.tail (Has.tail Has.head) | exact Has.tail (Has.tail (Has.tail Has.head)) | exact Has.tail (Has.tail (Has.tail (Has.tail Has.head))) | exact Has.tail (Has.tail (Has.tail (Has.tail (Has.tail Has.head)))) | exact Has.tail (Has.tail (Has.tail (Has.tail (Has.tail (Has.tail Has.head)))))) rfl rfl) (RV.tmp rfl) (fun wz hw => ?_)
        -- mq: done
        refine ⟨?_, hw.ext⟩
        rw [b3, if_pos hall, if_pos (by omega)]
        rfl
      · skip
        refine CW.skip (EX.seq (CW.seq (CW.region ?_)))
        refine RW.move rfl rfl ?_
        refine RW.buildS bu23 rfl rfl rfl ?_
        refine RW.storeA ag23 rfl rfl (by first | exact Upd.head | exact Upd.tail Upd.head | exact Upd.tail (Upd.tail Upd.head) | exact Upd.tail (Upd.tail (Upd.tail Upd.head)) | exact Upd.tail (Upd.tail (Upd.tail (Upd.tail Upd.head))) | exact Upd.tail (Upd.tail (Upd.tail (Upd.tail (Upd.tail Upd.head)))) | exact Upd.tail (Upd.tail (Upd.tail (Upd.tail (Upd.tail (Upd.tail Upd.head)))))) (by first | rfl | exact Enc.len _ _) (by repeat (first | exact Ones.nil | exact Enc.ones _ _ | refine Ones.cons rfl ?_)) (by first | exact Nat.le_of_ble_eq_true rfl | (simp only [Enc.len]; decide)) ?_
        refine RW.assign rfl rfl ?_
        refine RW.nil (EX.seq (CW.ret ?_))
        refine EX.fin2' Tryd.results34 (RV.cellA ag23 rfl (by first | exact Has.head | exact Has.tail Has.head | exact Has.tail (Has.tail Has.head) | exact Has.tail (Has.tail (Has.tail Has.head)) | exact Has.tail (Has.tail (Has.tail (Has.tail Has.head))) | exact Has.tail (Has.tail (Has.tail (Has.tail (Has.tail Has.head)))) | exact Has.tail (Has.tail (Has.tail (Has.tail (Has.tail (Has.tail Has.head)))))) rfl rfl) (RV.tmp rfl) (fun wz hw => ?_)
        -- mq: done
        refine ⟨?_, hw.ext⟩
        rw [b3, if_pos hall, if_neg (by omega)]
        rfl
end Go.Proofs.YtojfodeienchfaaDoor.Mq
