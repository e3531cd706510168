/- attributes: walks of join, paint -/
import Derived.Test.YtjplfonmdjnplaaDoorAs2
import Derived.Test.YtjplfonmdjnplaaDoorPm4s
import Derived.Test.YtjplfonmdjnplaaDoorJoin
namespace Go.Proofs.YtjplfonmdjnplaaDoor.Mq
open Go Go.RowKit Go.Proofs

theorem joinA_c (w : World) (hg : Gl w) (F : Nat → Prop) (A : Option Addr) (m c : Nat) (l : List Int) (hr : Rd EInt w F A m c l) (hm : m ≤ 1000) (h64 : ∀ x ∈ l, -9223372036854775808 ≤ x ∧ x ≤ 9223372036854775807) :
    Calls Tryd.prog 36 [.slice A m c].toArray w (fun e w' => e = .returned (.string (bs (numsT l))) ∧ Ext [] w w') := by
  have hlen := hr.len
  have hnl := numsT_len l h64
  refine calls (n := 20) Tryd.func36 rfl Tryd.ntmps36 rfl ?_
  refine CW.sub (H' := SH w [] []) ?_ (Sub.refl _) (fun x hx => SH.start' _ _ hx)
  refine CW.seq (CW.region ?_)
  refine RW.assign rfl rfl ?_
  refine RW.nil (EX.seq (CW.seq (CW.region ?_)))
  refine RW.assign rfl rfl ?_
  refine RW.nil (EX.seq (CW.seq (CW.seq ?_)))
  -- mq: region
  refine CW.ownNil 9 1 ?_
  refine CW.region ?_
  refine RW.move rfl rfl ?_
  refine RW.lenSl Tryd.underlying44 rfl rfl ?_
  refine RW.move rfl rfl ?_
  refine RW.nil (EX.seq (CW.block ?_))
  -- mq: loop
  refine CW.loop (ι := Nat × Value) (fun k => [(3, k.2), (6, .slice A m c), (7, .int .i64 (m : Int)), (8, .int .i64 (k.1 : Int))]) (fun k => SH w [] [own 9 1 k.2 k.1 (EStr.all ((l.take k.1).map Lib.itoa))]) (fun k => k.1 ≤ m) (fun k => m - k.1) ?_ ?_
  · exact fun w hw => ⟨(0, .slice none 0 0), Nat.zero_le _, (by repeat (first | exact Sub.nil | refine Sub.cons (by rfl) ?_)), hw⟩
  · rintro ⟨k, v⟩ hk
    dsimp only at hk ⊢
    refine CW.seq (CW.region ?_)
    refine RW.lss rfl rfl rfl ?_
    refine RW.nil (EX.seq (CW.seq ?_))
    -- mq: cond
    first | refine CW.condD rfl (fun hlt => ?_) (fun hlt => ?_) | refine CW.cond rfl (fun hlt => ?_) (fun hlt => ?_)
    · skip
      obtain ⟨x, hx⟩ : ∃ x, l[k]? = some x := ⟨l[k]'(by omega), List.getElem?_eq_getElem _⟩
      have hxb := h64 x (List.mem_of_getElem? hx)
      obtain ⟨ad, hA, _, hcell⟩ := hr.at_ hx
      refine CW.skip (EX.seq (CW.seq (CW.block (CW.seq (CW.region ?_)))))
      refine RW.ixAddr (q := k) sl44 rfl rfl rfl hA (by omega) (by omega) ?_
      refine RW.load1 sc3 rfl rfl (fun w' hw' => hw'.base_cell (hcell 0 _ rfl) (by simp)) ?_
      refine RW.assign rfl rfl ?_
      refine RW.nil (EX.seq ?_)
      -- mq: region
      refine CW.region ?_
      refine RW.move rfl rfl ?_
      refine RW.move rfl rfl ?_
      refine RW.call rfl caItoa rfl (fun w' hw' => itoa_c w' (hg.ext hw'.ext) x hxb) ?_
      refine RW.buildSlc sl57 rfl rfl rfl rfl (fun g15 hg15 hf15 => ?_)
      refine RW.append1 sl57 rfl rfl rfl (by first | exact Rem.head | exact Rem.tail Rem.head | exact Rem.tail (Rem.tail Rem.head) | exact Rem.tail (Rem.tail (Rem.tail Rem.head)) | exact Rem.tail (Rem.tail (Rem.tail (Rem.tail Rem.head))) | exact Rem.tail (Rem.tail (Rem.tail (Rem.tail (Rem.tail Rem.head)))) | exact Rem.tail (Rem.tail (Rem.tail (Rem.tail (Rem.tail (Rem.tail Rem.head)))))) (fun _ => by first | exact Upd.head | exact Upd.tail Upd.head | exact Upd.tail (Upd.tail Upd.head) | exact Upd.tail (Upd.tail (Upd.tail Upd.head)) | exact Upd.tail (Upd.tail (Upd.tail (Upd.tail Upd.head))) | exact Upd.tail (Upd.tail (Upd.tail (Upd.tail (Upd.tail Upd.head)))) | exact Upd.tail (Upd.tail (Upd.tail (Upd.tail (Upd.tail (Upd.tail Upd.head)))))) rfl (by repeat (first | exact Ones.nil | exact Enc.ones _ _ | refine Ones.cons rfl ?_)) (by simp only [maxLen]; omega) (by omega) (fun v16 hv16 => ?_)
      refine RW.assign rfl rfl ?_
      refine RW.nil (EX.bkN (EX.seq (CW.region ?_)))
      refine RW.add rfl rfl rfl (wrap64 (by omega) (by omega)) ?_
      refine RW.move rfl rfl ?_
      refine RW.nil ?_
      -- mq: loopend
      refine EX.lpN (k + 1, v16) (by dsimp only; omega) (by dsimp only; omega) (by repeat (first | exact Sub.nil | refine Sub.cons (by rfl) ?_)) (fun w' hw' => ?_)
      dsimp only
      rw [List.take_add_one, hx, Option.toList_some, List.map_append, List.map_cons, List.map_nil, Enc.all_snoc]
      exact hw'
    · skip
      obtain rfl : k = m := by omega
      rw [List.take_of_length_le (by omega)]
      refine CW.exit (EX.seqE (EX.lpE (EX.bkE (EX.seq (CW.seq ?_)))))
      -- mq: region
      refine CW.region ?_
      refine RW.move rfl rfl ?_
      refine RW.call rfl caJoin rfl (fun w' hw' => join_c w' _ _ _ (l.map Lib.itoa) [59] (hw'.has Has.head) (by simp; omega) (by omega) (by show (numsT l).length ≤ _; omega)) ?_
      refine RW.assign rfl rfl ?_
      refine RW.nil (EX.seq (CW.ret ?_))
      refine EX.fin1 Tryd.results36 rfl (fun wz hw => ?_)
      -- mq: done
      exact ⟨rfl, hw.ext⟩
def paintL (k n p : Int) : List Int := if k = 1 then [p, 5, n] else if k = 2 then [p, 2, n / 65536, n / 256 % 256, n % 256] else []
theorem and255 {z : Int} (h : 0 ≤ z ∧ z < 16777216) : IntKind.i64.wrap ((BitVec.ofInt IntKind.i64.bits z &&& BitVec.ofInt IntKind.i64.bits 255).toNat : Int) = z % 256 :=
  and_eq (m := z.toNat) (n := 255) (by omega) rfl (show z.toNat < 18446744073709551616 by omega) (by decide) (by
    have e : z.toNat &&& 255 = z.toNat % 256 := Nat.and_two_pow_sub_one_eq_mod z.toNat 8
    rw [e, wrapI64 (by omega) (by omega)]; omega)
theorem paint_c (w : World) (k n p : Int) (h : 0 ≤ n ∧ n < 16777216) : Calls Tryd.prog 35 [colV k n, .int .i64 p].toArray w (RetSl EInt w (paintL k n p)) := by
  refine calls (n := 27) Tryd.func35 rfl Tryd.ntmps35 rfl ?_
  refine CW.sub (H' := SH w [] []) ?_ (Sub.refl _) (fun x hx => SH.start' _ _ hx)
  refine CW.seq (CW.region ?_)
  refine RW.boxA rfl rfl (fun g2 hg2 hf2 => ?_)
  refine RW.assign rfl rfl ?_
  refine RW.nil (EX.seq (CW.seq (CW.seq (CW.region ?_))))
  refine RW.fieldB fl30x0 rfl rfl ?_
  refine RW.loadB1 sc3 rfl rfl (by first | exact Has.head | exact Has.tail Has.head | exact Has.tail (Has.tail Has.head) | exact Has.tail (Has.tail (Has.tail Has.head)) | exact Has.tail (Has.tail (Has.tail (Has.tail Has.head))) | exact Has.tail (Has.tail (Has.tail (Has.tail (Has.tail Has.head)))) | exact Has.tail (Has.tail (Has.tail (Has.tail (Has.tail (Has.tail Has.head)))))) rfl ?_
  refine RW.nil (EX.seq (CW.block (CW.seq (CW.region ?_))))
  refine RW.eqlI rfl rfl rfl ?_
  refine RW.assign rfl rfl ?_
  refine RW.nil (EX.seq ?_)
  -- mq: cond
  first | refine CW.condD rfl (fun h1 => ?_) (fun h1 => ?_) | refine CW.cond rfl (fun h1 => ?_) (fun h1 => ?_)
  · skip
    refine CW.seq (CW.region ?_)
    refine RW.move rfl rfl ?_
    refine RW.fieldB fl30x1 rfl rfl ?_
    refine RW.loadB1 sc3 rfl rfl (by first | exact Has.head | exact Has.tail Has.head | exact Has.tail (Has.tail Has.head) | exact Has.tail (Has.tail (Has.tail Has.head)) | exact Has.tail (Has.tail (Has.tail (Has.tail Has.head))) | exact Has.tail (Has.tail (Has.tail (Has.tail (Has.tail Has.head)))) | exact Has.tail (Has.tail (Has.tail (Has.tail (Has.tail (Has.tail Has.head)))))) rfl ?_
    refine RW.buildSlc sl44 rfl rfl rfl rfl (fun g12 hg12 hf12 => ?_)
    refine RW.assign rfl rfl ?_
    refine RW.nil (EX.seq (CW.ret (EX.bkR (EX.seqR ?_))))
    refine EX.fin1 Tryd.results35 rfl (fun wz hw => ?_)
    -- mq: done
    rw [paintL, if_pos h1]
    have hrd := Rd.of_blk (E := EInt) (L := [p, 5, n]) hw Has.head rfl (by show 3 ≤ maxLen; decide)
    exact ⟨_, _, _, rfl, hw.ext, hrd.weak (fun k hk => by rw [hk]; assumption)⟩
  · skip
    refine CW.seq (CW.region ?_)
    refine RW.eqlI rfl rfl rfl ?_
    refine RW.assign rfl rfl ?_
    refine RW.nil (EX.seq ?_)
    -- mq: cond
    first | refine CW.condD rfl (fun h2 => ?_) (fun h2 => ?_) | refine CW.cond rfl (fun h2 => ?_) (fun h2 => ?_)
    · skip
      refine CW.seq (CW.region ?_)
      refine RW.move rfl rfl ?_
      refine RW.fieldB fl30x1 rfl rfl ?_
      refine RW.loadB1 sc3 rfl rfl (by first | exact Has.head | exact Has.tail Has.head | exact Has.tail (Has.tail Has.head) | exact Has.tail (Has.tail (Has.tail Has.head)) | exact Has.tail (Has.tail (Has.tail (Has.tail Has.head))) | exact Has.tail (Has.tail (Has.tail (Has.tail (Has.tail Has.head)))) | exact Has.tail (Has.tail (Has.tail (Has.tail (Has.tail (Has.tail Has.head)))))) rfl ?_
      refine RW.shrN (r := n / 65536) rfl rfl rfl (by decide) (by rfl) ?_
      refine RW.fieldB fl30x1 rfl rfl ?_
      refine RW.loadB1 sc3 rfl rfl (by first | exact Has.head | exact Has.tail Has.head | exact Has.tail (Has.tail Has.head) | exact Has.tail (Has.tail (Has.tail Has.head)) | exact Has.tail (Has.tail (Has.tail (Has.tail Has.head))) | exact Has.tail (Has.tail (Has.tail (Has.tail (Has.tail Has.head)))) | exact Has.tail (Has.tail (Has.tail (Has.tail (Has.tail (Has.tail Has.head)))))) rfl ?_
      refine RW.shrN (r := n / 256) rfl rfl rfl (by decide) (by rfl) ?_
      refine RW.and_ (r := n / 256 % 256) rfl rfl rfl (and255 (by omega)) ?_
      refine RW.fieldB fl30x1 rfl rfl ?_
      refine RW.loadB1 sc3 rfl rfl (by first | exact Has.head | exact Has.tail Has.head | exact Has.tail (Has.tail Has.head) | exact Has.tail (Has.tail (Has.tail Has.head)) | exact Has.tail (Has.tail (Has.tail (Has.tail Has.head))) | exact Has.tail (Has.tail (Has.tail (Has.tail (Has.tail Has.head)))) | exact Has.tail (Has.tail (Has.tail (Has.tail (Has.tail (Has.tail Has.head)))))) rfl ?_
      refine RW.and_ (r := n % 256) rfl rfl rfl (and255 h) ?_
      refine RW.buildSlc sl44 rfl rfl rfl rfl (fun g26 hg26 hf26 => ?_)
      refine RW.assign rfl rfl ?_
      refine RW.nil (EX.seq (CW.ret (EX.bkR (EX.seqR ?_))))
      refine EX.fin1 Tryd.results35 rfl (fun wz hw => ?_)
      -- mq: done
      rw [paintL, if_neg h1, if_pos h2]
      have hrd := Rd.of_blk (E := EInt) (L := [p, 2, n / 65536, n / 256 % 256, n % 256]) hw Has.head rfl (by show 5 ≤ maxLen; decide)
      exact ⟨_, _, _, rfl, hw.ext, hrd.weak (fun k hk => by rw [hk]; assumption)⟩
    · skip
      refine CW.skip (EX.bkN (EX.seq (CW.seq (CW.region ?_))))
      refine RW.assign rfl rfl ?_
      refine RW.nil (EX.seq (CW.ret ?_))
      refine EX.fin1 Tryd.results35 rfl (fun wz hw => ?_)
      -- mq: done
      rw [paintL, if_neg h1, if_neg h2]
      exact ⟨none, 0, 0, rfl, hw.ext, Rd.nil EInt _ _ 0 (by decide) none⟩
end Go.Proofs.YtjplfonmdjnplaaDoor.Mq
