/- attributes: the example; AttrRight -/
import Derived.Test.YtojfodeienchfaaDoorAtB
import Derived.Test.YtojfodeienchfaaDoorAt9
namespace Go.Proofs.YtojfodeienchfaaDoor.Mq
open Go Go.RowKit Go.Proofs

def exG : List (List Int) := [[1], [38], [5], [200]]
def exA : AtV := ⟨1, 200, 0, 0, 1⟩
theorem exG_cl : Cl exG := by unfold Cl exG; decide
theorem exG_turn : turnF exG 0 zeroA = exA := by
  rw [turnF_in (b := ⟨0, 0, 0, 0, 1⟩) (j := 1) (by decide) (by decide +kernel), turnF_in (b := exA) (j := 4) (by decide) (by decide +kernel), turnF_out (by decide)]
theorem exA_text : textF exA = [48, 59, 49, 59, 51, 56, 59, 53, 59, 50, 48, 48] := by
  rw [textF, if_pos (by decide +kernel), show textL exA = [((0 : Nat) : Int), ((1 : Nat) : Int), ((38 : Nat) : Int), ((5 : Nat) : Int), ((200 : Nat) : Int)] by decide +kernel]
  simp only [numsT, List.map_cons, List.map_nil, Lib.itoa_nonneg, dec_small (u := 0) (by decide), dec_small (u := 1) (by decide), dec_small (u := 5) (by decide), dec_big (u := 38) (by decide), dec_big (u := 200) (by decide), dec_big (u := 200 / 10) (by decide), dec_small (u := 38 / 10) (by decide), dec_small (u := 200 / 10 / 10) (by decide)]
  decide +kernel
theorem awake_c (w : World) (hg : Gl w) : Calls Tryd.prog 10 [].toArray w (fun e w' => e = .returned (.bool true) ∧ Ext [] w w') := by
  refine calls (n := 18) Tryd.func10 rfl Tryd.ntmps10 rfl ?_
  refine CW.sub (H' := SH w [] []) ?_ (Sub.refl _) (fun x hx => SH.start' _ _ hx)
  refine CW.seq (CW.region ?_)
  refine RW.assign rfl rfl ?_
  refine RW.nil (EX.seq (CW.seq (CW.region ?_)))
  refine RW.buildS bu25 rfl rfl rfl ?_
  refine RW.buildSlc sl40 rfl rfl rfl rfl (fun g3 hg3 hf3 => ?_)
  refine RW.buildSlc sl40 rfl rfl rfl rfl (fun g4 hg4 hf4 => ?_)
  refine RW.buildSlc sl40 rfl rfl rfl rfl (fun g5 hg5 hf5 => ?_)
  refine RW.buildSlc sl40 rfl rfl rfl rfl (fun g6 hg6 hf6 => ?_)
  refine RW.buildSlc sl28 rfl rfl rfl rfl (fun g7 hg7 hf7 => ?_)
  -- mq: op 6: ('Op.call', ('Call.mk', ('Callee.value', ('Operand.func', '13')), ('arr', ('Operand.tmp', '2'), ('Operand.tmp', '7')), ('arr', '25', '28'))) -> slot 8 ("law.go:14")
  refine RW.call (v := atV exA) rfl ca13 rfl (fun w' hw' => ?_) ?_
  · have hro := Rd.of_blk (E := ESl) (L := [⟨some ⟨g3, 0, none⟩, 1, 1⟩, ⟨some ⟨g4, 0, none⟩, 1, 1⟩, ⟨some ⟨g5, 0, none⟩, 1, 1⟩, ⟨some ⟨g6, 0, none⟩, 1, 1⟩]) hw' Has.head rfl (by show 4 ≤ maxLen; decide)
    have r6 := Rd.of_blk (E := EInt) (L := [200]) hw' (Has.tail Has.head) rfl (by decide)
    have r5 := Rd.of_blk (E := EInt) (L := [5]) hw' (Has.tail (Has.tail Has.head)) rfl (by decide)
    have r4 := Rd.of_blk (E := EInt) (L := [38]) hw' (Has.tail (Has.tail (Has.tail Has.head))) rfl (by decide)
    have r3 := Rd.of_blk (E := EInt) (L := [1]) hw' (Has.tail (Has.tail (Has.tail (Has.tail Has.head)))) rfl (by decide)
    have hrg : RdG w' (fun _ => True) (some ⟨g7, 0, none⟩) 4 4 exG := ⟨_, hro.weak (fun _ _ => trivial), rfl, fun k s g hs hg' => by
      match k, hs, hg' with
      | 0, hs, hg' => cases hs; cases hg'; exact r3.weak (fun _ _ => trivial)
      | 1, hs, hg' => cases hs; cases hg'; exact r4.weak (fun _ _ => trivial)
      | 2, hs, hg' => cases hs; cases hg'; exact r5.weak (fun _ _ => trivial)
      | 3, hs, hg' => cases hs; cases hg'; exact r6.weak (fun _ _ => trivial)
      | k + 4, hs, _ => simp at hs⟩
    have := turn_c w' _ _ _ _ exG hrg exG_cl zeroA ⟨Int.le_refl 0, by show (0 : Int) < 1024; decide⟩
    rw [exG_turn] at this
    exact this
  refine RW.allocA ag25 rfl (fun g1 hg1 hf1 => ?_)
  refine RW.storeA ag25 rfl rfl (by first | exact Upd.head | exact Upd.tail Upd.head | exact Upd.tail (Upd.tail Upd.head) | exact Upd.tail (Upd.tail (Upd.tail Upd.head)) | exact Upd.tail (Upd.tail (Upd.tail (Upd.tail Upd.head))) | exact Upd.tail (Upd.tail (Upd.tail (Upd.tail (Upd.tail Upd.head)))) | exact Upd.tail (Upd.tail (Upd.tail (Upd.tail (Upd.tail (Upd.tail Upd.head)))))) (by first | rfl | exact Enc.len _ _) (by repeat (first | exact Ones.nil | exact Enc.ones _ _ | refine Ones.cons rfl ?_)) (by first | exact Nat.le_of_ble_eq_true rfl | (simp only [Enc.len]; decide)) ?_
  refine RW.nil (EX.seq (CW.seq (CW.region ?_)))
  refine RW.loadBA ag25 rfl rfl (by first | exact Has.head | exact Has.tail Has.head | exact Has.tail (Has.tail Has.head) | exact Has.tail (Has.tail (Has.tail Has.head)) | exact Has.tail (Has.tail (Has.tail (Has.tail Has.head))) | exact Has.tail (Has.tail (Has.tail (Has.tail (Has.tail Has.head)))) | exact Has.tail (Has.tail (Has.tail (Has.tail (Has.tail (Has.tail Has.head)))))) rfl rfl ?_
  refine RW.buildS bu23 rfl rfl rfl ?_
  refine RW.buildS bu25 rfl rfl rfl ?_
  refine RW.eqlSt eq25 rfl rfl rfl (by kernel_rfl) (show _ = true from rfl) ?_
  refine RW.move rfl rfl ?_
  -- mq: guard slot 13
  refine RW.guardT rfl rfl rfl ?_
  refine RW.loadBA ag25 rfl rfl (by first | exact Has.head | exact Has.tail Has.head | exact Has.tail (Has.tail Has.head) | exact Has.tail (Has.tail (Has.tail Has.head)) | exact Has.tail (Has.tail (Has.tail (Has.tail Has.head))) | exact Has.tail (Has.tail (Has.tail (Has.tail (Has.tail Has.head)))) | exact Has.tail (Has.tail (Has.tail (Has.tail (Has.tail (Has.tail Has.head)))))) rfl rfl ?_
  refine RW.guardT rfl rfl rfl ?_
  refine RW.call rfl ca15 rfl (fun w' hw' => text_c w' (hg.ext hw'.ext) exA (by decide)) ?_
  refine RW.guardT rfl rfl rfl ?_
  refine RW.eqlS rfl rfl rfl ?_
  refine RW.pickB rfl rfl rfl rfl ?_
  refine RW.assign rfl rfl ?_
  refine RW.nil (EX.seq (CW.ret ?_))
  refine EX.fin1 Tryd.results10 rfl (fun wz hw => ?_)
  -- mq: done
  exact ⟨by rw [exA_text]; rfl, hw.ext⟩
theorem attrRight_c (w : World) (hg : Gl w) (a : AtV) (h64 : -9223372036854775808 ≤ a.fl ∧ a.fl ≤ 9223372036854775807) :
    Calls Tryd.prog 3 [atV a].toArray w (fun e w' => e = .returned (.bool true) ∧ Ext [] w w') := by
  refine calls (n := 11) Tryd.func3 rfl Tryd.ntmps3 rfl ?_
  refine CW.sub (H' := SH w [] []) ?_ (Sub.refl _) (fun x hx => SH.start' _ _ hx)
  refine CW.seq (CW.region ?_)
  refine RW.boxA rfl rfl (fun g1 hg1 hf1 => ?_)
  refine RW.assign rfl rfl ?_
  refine RW.nil (EX.seq (CW.seq ?_))
  -- mq: draw op 1: ('Op.call', ('Call.mk', ('Callee.value', ('Operand.func', '8')), ('arr', ('Operand.tmp', '3')), ('arr', '25'))) -> slot 4 ("law.go:20")
  refine CW.drawU [0, 2] 3 [[(1, false, []), (3, false, [4, 5]), (6, false, [7, 8])]] (SH w [] [blk g1 [.int .i64 a.fk, .int .i64 a.fn, .int .i64 a.bk, .int .i64 a.bn, .int .i64 a.fl] 25]) mixed (by kernel_rfl) (fun _ hw => hw.drew) (fun _ h => (by first | trivial | exact h | exact h.ch | exact (h.rem Rem.head).ch | exact ((h.rem Rem.head).rem Rem.head).ch | exact (((h.rem Rem.head).rem Rem.head).rem Rem.head).ch)) ?_
  refine QuP.cons rfl (fun wq hq => (RW.loadA ag25 rfl rfl rfl (fun w1 e1 j u hj => by subst e1; exact hq.blk_at (sz := 5) (by first | exact Has.head | exact Has.tail Has.head | exact Has.tail (Has.tail Has.head) | exact Has.tail (Has.tail (Has.tail Has.head)) | exact Has.tail (Has.tail (Has.tail (Has.tail Has.head))) | exact Has.tail (Has.tail (Has.tail (Has.tail (Has.tail Has.head)))) | exact Has.tail (Has.tail (Has.tail (Has.tail (Has.tail (Has.tail Has.head)))))) rfl j u hj) RW.jn)) ?_
  refine QuP.cons rfl (fun wq hq => (RW.loadA ag25 rfl rfl rfl (fun w1 e1 j u hj => by subst e1; exact hq.blk_at (sz := 5) (by first | exact Has.head | exact Has.tail Has.head | exact Has.tail (Has.tail Has.head) | exact Has.tail (Has.tail (Has.tail Has.head)) | exact Has.tail (Has.tail (Has.tail (Has.tail Has.head))) | exact Has.tail (Has.tail (Has.tail (Has.tail (Has.tail Has.head)))) | exact Has.tail (Has.tail (Has.tail (Has.tail (Has.tail (Has.tail Has.head)))))) rfl j u hj) RW.jn)) ?_
  refine QuP.nil ?_
  refine UW.step [_] rfl (List.forall_mem_cons.2 ⟨?_, by simp⟩)
  refine RW.call rfl ca8 rfl (fun w' hw' => right_c w' a h64) ?_
  refine RW.st (fun _ => True) (fun _ h => .inr (by first | trivial | exact h | exact h.ch | exact (h.rem Rem.head).ch | exact ((h.rem Rem.head).rem Rem.head).ch | exact (((h.rem Rem.head).rem Rem.head).rem Rem.head).ch)) (fun _ h => trivial) ?_
  refine QuP.nil ?_
  refine UW.step [_] rfl (List.forall_mem_cons.2 ⟨?_, by simp⟩)
  refine RW.call rfl ca9 rfl (fun w' hw' => refRight_c w' a) ?_
  refine RW.st (fun _ => True) (fun _ h => .inr ⟨.inr (by first | trivial | exact h | exact h.ch | exact (h.rem Rem.head).ch | exact ((h.rem Rem.head).rem Rem.head).ch | exact (((h.rem Rem.head).rem Rem.head).rem Rem.head).ch), trivial⟩) (fun _ h => trivial) ?_
  refine QuP.cons rfl (fun wq hq => (RW.eqlB Tryd.underlying4 rfl rfl rfl RW.jn)) ?_
  refine QuP.cons rfl (fun wq hq => (RW.move rfl rfl RW.jn)) ?_
  refine QuP.nil ?_
  refine UW.step [_] rfl (List.forall_mem_cons.2 ⟨?_, by simp⟩)
  refine RW.guardT rfl rfl ((decide_eq_true rfl)) ?_
  refine RW.call rfl ca10 rfl (fun w' hw' => awake_c w' (hg.ext hw'.ext)) ?_
  refine RW.st (fun _ => True) (fun _ h => .inr ⟨.inr ⟨.inr (by first | trivial | exact h | exact h.ch | exact (h.rem Rem.head).ch | exact ((h.rem Rem.head).rem Rem.head).ch | exact (((h.rem Rem.head).rem Rem.head).rem Rem.head).ch), trivial⟩, trivial⟩) (fun _ h => trivial) ?_
  refine QuP.cons rfl (fun wq hq => (RW.pickB rfl rfl (decide_eq_true rfl) rfl RW.jn)) ?_
  refine QuP.cons rfl (fun wq hq => (RW.assign rfl rfl RW.jn)) ?_
  refine QuP.nil ?_
  refine UW.nil (EX.seq (CW.ret ?_))
  refine EX.fin1 Tryd.results3 rfl (fun wz hw => ?_)
  -- mq: done
  exact ⟨rfl, hw.ext⟩
end Go.Proofs.YtojfodeienchfaaDoor.Mq
