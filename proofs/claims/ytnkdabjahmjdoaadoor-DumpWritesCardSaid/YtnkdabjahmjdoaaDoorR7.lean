/- dump: the reader of words: next, number, either, phase; dump: the reader of words: either, phase, id; dump: ParseUint of two bytes; the reader of a phase; dump: the reader of a text; dump: what the readers make of seventeen words: plain law; dump: the reference's Line; dump: Parse: what it answers, in plain words -/
import Derived.Test.YtnkdabjahmjdoaaDoorD6
import Derived.Test.YtnkdabjahmjdoaaDoorAto
import Derived.Test.YtnkdabjahmjdoaaDoorTwo
import Derived.Shelf.Pu.ParseUintPublic10
import Derived.Test.YtnkdabjahmjdoaaDoorPu16
import Derived.Test.YtnkdabjahmjdoaaDoorCut
import Derived.Shelf.Pu.ToError
namespace Go.Proofs.YtnkdabjahmjdoaaDoor.Mq
open Go Go.RowKit Go.Proofs

structure WS where
  A : Option Addr
  m : Nat
  c : Nat
def WS.adv (s : WS) : WS := ⟨if s.c = 1 then s.A else s.A.map (·.add (1 * EStr.sz)), s.m - 1, s.c - 1⟩
abbrev rdr (g : Nat) (s : WS) (bad : Bool) : Chunk := blk g [.slice s.A s.m s.c, .bool bad] 68
abbrev RdW (w : World) (F : Nat → Prop) (s : WS) (L : List (List UInt8)) : Prop := Rd EStr w F s.A s.m s.c L
theorem RdW.adv {w : World} {F : Nat → Prop} {s : WS} {x : List UInt8} {L : List (List UInt8)} (h : RdW w F s (x :: L)) : RdW w F s.adv L := by
  have hl := h.len
  have hcut := Rd.cut h (p := 1) (q := s.m) (by rw [← hl]; simp) (Nat.le_refl _)
  rw [show ((x :: L).take s.m).drop 1 = L by rw [← hl, List.take_length]; rfl] at hcut
  exact hcut
theorem next_c (w : World) (g : Nat) (s : WS) (bad : Bool) (F : Nat → Prop) (x : List UInt8) (L : List (List UInt8)) (hr : RdW w F s (x :: L)) (hF : ¬ F g) (h : (rdr g s bad).pred w) :
    Calls Tryd.prog 34 [.pointer (some ⟨g, 0, none⟩)].toArray w (RetU (fun _ : Unit => .string (bs x)) (rdr g s bad) (fun _ => rdr g s.adv bad) (fun _ => True) w) := by
  have hl := hr.len
  have hm : 1 ≤ s.m := by rw [← hl]; simp
  have hc := hr.cap
  obtain ⟨ad, hA, hFa, hcl⟩ := hr.at_ (k := 0) (a := x) rfl
  have hne : ad.block ≠ g := fun e => hF (e ▸ hFa)
  refine calls (n := 16) Tryd.func34 rfl Tryd.ntmps34 rfl ?_
  refine CW.sub (H' := SH w (rdr g s bad).foot [rdr g s bad]) ?_ (Sub.refl _) (fun x hx => SH.startOf' hx h (by simp [blk]))
  refine CW.seq (CW.region ?_)
  refine RW.assign rfl rfl ?_
  refine RW.nil (EX.seq (CW.seq ?_))
  -- mq: region
  refine CW.region ?_
  refine RW.move rfl rfl ?_
  refine RW.nilChk rfl rfl ?_
  refine RW.loadB1 sc66 rfl rfl (by first | exact Has.head | exact Has.tail Has.head | exact Has.tail (Has.tail Has.head) | exact Has.tail (Has.tail (Has.tail Has.head)) | exact Has.tail (Has.tail (Has.tail (Has.tail Has.head))) | exact Has.tail (Has.tail (Has.tail (Has.tail (Has.tail Has.head)))) | exact Has.tail (Has.tail (Has.tail (Has.tail (Has.tail (Has.tail Has.head)))))) rfl ?_
  refine RW.ixAddr (q := 0) sl66 rfl rfl rfl (by first | rfl | assumption) (by omega) (by omega) ?_
  refine RW.load1 sc9 rfl rfl (fun w' hw' => hw'.base_cell (hcl 0 _ rfl) (by simp [feet, blk]; exact hne)) ?_
  refine RW.assign rfl rfl ?_
  refine RW.nil (EX.seq (CW.seq ?_))
  -- mq: region
  refine CW.region ?_
  refine RW.move rfl rfl ?_
  refine RW.move rfl rfl ?_
  refine RW.nilChk rfl rfl ?_
  refine RW.loadB1 sc66 rfl rfl (by first | exact Has.head | exact Has.tail Has.head | exact Has.tail (Has.tail Has.head) | exact Has.tail (Has.tail (Has.tail Has.head)) | exact Has.tail (Has.tail (Has.tail (Has.tail Has.head))) | exact Has.tail (Has.tail (Has.tail (Has.tail (Has.tail Has.head)))) | exact Has.tail (Has.tail (Has.tail (Has.tail (Has.tail (Has.tail Has.head)))))) rfl ?_
  refine RW.sliceSl 1 s.m sl66 rfl rfl (.inl ⟨_, _, rfl, rfl, rfl⟩) (.inr ⟨rfl, rfl⟩) (by omega) (by omega) ?_
  refine RW.nilChk rfl rfl ?_
  refine RW.store1 sc66 rfl rfl (by first | exact Upd.head | exact Upd.tail Upd.head | exact Upd.tail (Upd.tail Upd.head) | exact Upd.tail (Upd.tail (Upd.tail Upd.head)) | exact Upd.tail (Upd.tail (Upd.tail (Upd.tail Upd.head))) | exact Upd.tail (Upd.tail (Upd.tail (Upd.tail (Upd.tail Upd.head)))) | exact Upd.tail (Upd.tail (Upd.tail (Upd.tail (Upd.tail (Upd.tail Upd.head)))))) rfl (by first | exact Nat.le_of_ble_eq_true rfl | simp) ?_
  refine RW.nil (EX.seq (CW.seq (CW.region ?_)))
  refine RW.move rfl rfl ?_
  refine RW.assign rfl rfl ?_
  refine RW.nil (EX.seq (CW.ret ?_))
  refine EX.fin1 Tryd.results34 rfl (fun wz hw => ?_)
  -- mq: done
  exact RetU.of () trivial hw
section
variable {P : Program} {n : Nat} {ops : Array Oper} {Q : Post} {rest : List Oper} {l : Fr} {H : World → Prop} {d : Nat} {ty : TypeId} {pos : String} {af : Array Edge} {x : Operand} {xt yt : TypeId}
theorem RW.neqNilAt (ht : P.isIface xt = true) (hd : Nat.blt d n = true) (hx : ev l x = some .nilIface)
    (h : RW P n ops Q rest ((d, .bool false) :: l) H) : RW P n ops Q (⟨some d, .binOp .neq xt x (.const .nilIface) yt, ty, pos, af, none⟩ :: rest) l H :=
  RW.val _ hd (fun ρ w hρ => by
    have e1 : ρ (.const .nilIface) = .nilIface := hρ _ _ rfl
    have e2 := run_neq_nil_nil_at (P := P) w xt ht
    simp [execOp, hρ x _ hx, e1, eqGuard_nil_constR, e2]) h
theorem RW.neqErr {t : TypeId} {p : Value} (ht : P.isIface xt = true) (hd : Nat.blt d n = true) (hx : ev l x = some (.iface t p))
    (h : RW P n ops Q rest ((d, .bool true) :: l) H) : RW P n ops Q (⟨some d, .binOp .neq xt x (.const .nilIface) yt, ty, pos, af, none⟩ :: rest) l H :=
  RW.val _ hd (fun ρ w hρ => by
    have e1 : ρ (.const .nilIface) = .nilIface := hρ _ _ rfl
    have e2 := run_neq_iface_nil (P := P) w xt ht t p
    have e3 : eqGuard .neq xt x (.const .nilIface) (.iface t p) .nilIface = pure () := by rfl
    simp [execOp, hρ x _ hx, e1, e3, e2]) h
end
/-- what a reader of a number says of a word -/
def NumR (x : List UInt8) (bad : Bool) (i : Int × Bool) : Prop := (numF x = none → i.2 = true) ∧ ∀ n, numF x = some n → i = (n, bad)
/-- the library's variables, as they were before the reader was made -/
def GR (w : World) (g : Nat) : Prop := ∃ w0, Ext [] w0 w ∧ w0.heap.size ≤ g ∧ Gl w0 ∧ Ge w0
theorem GR.gl {w w' : World} {g : Nat} (h : GR w g) (hx : Ext [g] w w') : Gl w' ∧ Ge w' := by
  obtain ⟨w0, h1, h2, h3, h4⟩ := h
  have e : Ext [] w0 w' := h1.trans hx (fun k hk hlt => by simp at hk; omega)
  exact ⟨h3.ext e, h4.ext e⟩
theorem GR.ext {w w' : World} {g : Nat} (h : GR w g) (hx : Ext [g] w w') : GR w' g := by
  obtain ⟨w0, h1, h2, h3, h4⟩ := h
  exact ⟨w0, h1.trans hx (fun k hk hlt => by simp at hk; omega), h2, h3, h4⟩
theorem hFext {w w' : World} {F : Nat → Prop} {g : Nat} {s : WS} {L : List (List UInt8)} (hr : RdW w F s L) (hF : ¬ F g) (hx : Ext [g] w w') : RdW w' F s L :=
  hr.ext hx (by intro k hk hk2; simp at hk2; exact hF (hk2 ▸ hk))
theorem numberR_c (w : World) (g : Nat) (hG : GR w g) (s : WS) (bad : Bool) (F : Nat → Prop) (x : List UInt8) (L : List (List UInt8)) (hr : RdW w F s (x :: L)) (hF : ¬ F g) (hxl : x.length ≤ 1000000) (h : (rdr g s bad).pred w) :
    Calls Tryd.prog 38 [.pointer (some ⟨g, 0, none⟩)].toArray w (RetU (fun i : Int × Bool => .int .i64 i.1) (rdr g s bad) (fun i => rdr g s.adv i.2) (NumR x bad) w) := by
  refine calls (n := 33) Tryd.func38 rfl Tryd.ntmps38 rfl ?_
  refine CW.sub (H' := SH w (rdr g s bad).foot [rdr g s bad]) ?_ (Sub.refl _) (fun x hx => SH.startOf' hx h (by simp [blk]))
  refine CW.seq (CW.region ?_)
  refine RW.assign rfl rfl ?_
  refine RW.nil (EX.seq (CW.seq ?_))
  -- mq: region
  refine CW.region ?_
  refine RW.move rfl rfl ?_
  refine RW.nilChk rfl rfl ?_
  refine RW.fieldP fl68x0 rfl rfl ?_
  refine RW.callUI (fun _ => [rdr g s.adv bad]) rfl ca34 rfl (fun _ => Upd.head) (fun w' hw' => next_c w' g s bad F x L (hFext hr hF hw'.ext) hF (hw'.has Has.head)) (fun _ _ => ?_)
  refine RW.assign rfl rfl ?_
  refine RW.nil (EX.seq (CW.seq ?_))
  -- mq: region
  by_cases hx : ∃ v, Lib.atoiAll x = .ok v
  · skip
    obtain ⟨v, hok⟩ := hx
    have hn : In64 v := Lib.atoiAll_bounds hok
    refine CW.region ?_
    refine RW.move rfl rfl ?_
    refine RW.call rfl caAto rfl (fun w' _ => atoiOk_c w' x v hxl hok) ?_
    refine RW.move rfl rfl ?_
    refine RW.extract rfl rfl rfl ?_
    refine RW.extract rfl rfl rfl ?_
    refine RW.assign rfl rfl ?_
    refine RW.assign rfl rfl ?_
    refine RW.nil (EX.seq (CW.seq ?_))
    -- mq: region
    cases bad with
    | true =>
      refine CW.region ?_
      refine RW.move rfl rfl ?_
      refine RW.move rfl rfl ?_
      refine RW.nilChk rfl rfl ?_
      refine RW.fieldB fl68x1 rfl rfl ?_
      refine RW.loadB1 sc4 rfl rfl (by first | exact Has.head | exact Has.tail Has.head | exact Has.tail (Has.tail Has.head) | exact Has.tail (Has.tail (Has.tail Has.head)) | exact Has.tail (Has.tail (Has.tail (Has.tail Has.head))) | exact Has.tail (Has.tail (Has.tail (Has.tail (Has.tail Has.head)))) | exact Has.tail (Has.tail (Has.tail (Has.tail (Has.tail (Has.tail Has.head)))))) rfl ?_
      -- mq: at
      refine RW.move rfl rfl ?_
      refine RW.guardF rfl rfl rfl rfl ?_
      refine RW.guardF rfl rfl rfl rfl ?_
      refine RW.pickB rfl rfl rfl rfl ?_
      refine RW.move rfl rfl ?_
      refine RW.guardF rfl rfl rfl rfl ?_
      refine RW.guardF rfl rfl rfl rfl ?_
      refine RW.guardF rfl rfl rfl rfl ?_
      refine RW.guardF rfl rfl rfl rfl ?_
      refine RW.pickB rfl rfl rfl rfl ?_
      refine RW.nilChk rfl rfl ?_
      refine RW.fieldB fl68x1 rfl rfl ?_
      refine RW.store1 sc4 rfl rfl (by first | exact Upd.head | exact Upd.tail Upd.head | exact Upd.tail (Upd.tail Upd.head) | exact Upd.tail (Upd.tail (Upd.tail Upd.head)) | exact Upd.tail (Upd.tail (Upd.tail (Upd.tail Upd.head))) | exact Upd.tail (Upd.tail (Upd.tail (Upd.tail (Upd.tail Upd.head)))) | exact Upd.tail (Upd.tail (Upd.tail (Upd.tail (Upd.tail (Upd.tail Upd.head)))))) rfl (by first | exact Nat.le_of_ble_eq_true rfl | simp) ?_
      refine RW.nil (EX.seq (CW.seq (CW.region ?_)))
      refine RW.move rfl rfl ?_
      refine RW.assign rfl rfl ?_
      refine RW.nil (EX.seq (CW.ret ?_))
      refine EX.fin1 Tryd.results38 rfl (fun wz hw => ?_)
      -- mq: done
      refine RetU.of (v, true) ⟨fun _ => rfl, fun m hm => ?_⟩ hw
      obtain ⟨he, hi⟩ := numF_iff.1 hm
      have := atoi_itoa hi
      rw [he, hok] at this
      cases this
      rfl
    | false =>
      refine CW.region ?_
      refine RW.move rfl rfl ?_
      refine RW.move rfl rfl ?_
      refine RW.nilChk rfl rfl ?_
      refine RW.fieldB fl68x1 rfl rfl ?_
      refine RW.loadB1 sc4 rfl rfl (by first | exact Has.head | exact Has.tail Has.head | exact Has.tail (Has.tail Has.head) | exact Has.tail (Has.tail (Has.tail Has.head)) | exact Has.tail (Has.tail (Has.tail (Has.tail Has.head))) | exact Has.tail (Has.tail (Has.tail (Has.tail (Has.tail Has.head)))) | exact Has.tail (Has.tail (Has.tail (Has.tail (Has.tail (Has.tail Has.head)))))) rfl ?_
      refine RW.move rfl rfl ?_
      refine RW.guardT rfl rfl rfl ?_
      refine RW.move rfl rfl ?_
      refine RW.guardT rfl rfl rfl ?_
      refine RW.neqNilAt (by kernel_rfl) rfl rfl ?_
      refine RW.pickC rfl rfl rfl rfl ?_
      refine RW.move rfl rfl ?_
      refine RW.guardT rfl rfl rfl ?_
      refine RW.move rfl rfl ?_
      refine RW.guardT rfl rfl rfl ?_
      refine RW.call rfl caItoa rfl (fun w' hw' => itoa_c w' (hG.gl hw'.ext).1 v hn) ?_
      refine RW.guardT rfl rfl rfl ?_
      refine RW.move rfl rfl ?_
      refine RW.guardT rfl rfl rfl ?_
      refine RW.neqS rfl rfl rfl ?_
      refine RW.pickC rfl rfl rfl rfl ?_
      refine RW.nilChk rfl rfl ?_
      refine RW.fieldB fl68x1 rfl rfl ?_
      refine RW.store1 sc4 rfl rfl (by first | exact Upd.head | exact Upd.tail Upd.head | exact Upd.tail (Upd.tail Upd.head) | exact Upd.tail (Upd.tail (Upd.tail Upd.head)) | exact Upd.tail (Upd.tail (Upd.tail (Upd.tail Upd.head))) | exact Upd.tail (Upd.tail (Upd.tail (Upd.tail (Upd.tail Upd.head)))) | exact Upd.tail (Upd.tail (Upd.tail (Upd.tail (Upd.tail (Upd.tail Upd.head)))))) rfl (by first | exact Nat.le_of_ble_eq_true rfl | simp) ?_
      refine RW.nil (EX.seq (CW.seq (CW.region ?_)))
      refine RW.move rfl rfl ?_
      refine RW.assign rfl rfl ?_
      refine RW.nil (EX.seq (CW.ret ?_))
      refine EX.fin1 Tryd.results38 rfl (fun wz hw => ?_)
      -- mq: done
      refine RetU.of (v, decide (Lib.itoa v ≠ x)) ⟨fun hnn => ?_, fun m hm => ?_⟩ hw
      · rw [numF_ok hok] at hnn
        split at hnn
        · cases hnn
        · rename_i he; exact decide_eq_true he
      · obtain ⟨he, hi⟩ := numF_iff.1 hm
        have := atoi_itoa hi
        rw [he, hok] at this
        cases this
        rw [decide_eq_false (fun e => e he)]
  · skip
    have hno := numF_no (fun v hv => hx ⟨v, hv⟩)
    refine CW.region ?_
    refine RW.move rfl rfl ?_
    -- mq: at
    refine RW.callA (R := fun _ v _ => IsErr v) rfl caAto rfl (fun w' hw' => atoiNo_c w' (hG.gl hw'.ext).2 x hxl (fun v hv => hx ⟨v, hv⟩)) (fun w1 w2 v hw1 he12 hw2 hlt hv => ?_)
    obtain ⟨y, t, p, rfl⟩ := hv
    have hx12 := hw1.ext.trans0 he12
    have hcv := hw1.cov
    refine RW.move rfl rfl ?_
    refine RW.extract rfl rfl rfl ?_
    refine RW.extract rfl rfl rfl ?_
    refine RW.assign rfl rfl ?_
    refine RW.assign rfl rfl ?_
    refine RW.nil (EX.seq (CW.seq ?_))
    -- mq: region
    cases bad with
    | true =>
      refine CW.region ?_
      refine RW.move rfl rfl ?_
      refine RW.move rfl rfl ?_
      refine RW.nilChk rfl rfl ?_
      refine RW.fieldB fl68x1 rfl rfl ?_
      refine RW.loadB1 sc4 rfl rfl (by first | exact Has.head | exact Has.tail Has.head | exact Has.tail (Has.tail Has.head) | exact Has.tail (Has.tail (Has.tail Has.head)) | exact Has.tail (Has.tail (Has.tail (Has.tail Has.head))) | exact Has.tail (Has.tail (Has.tail (Has.tail (Has.tail Has.head)))) | exact Has.tail (Has.tail (Has.tail (Has.tail (Has.tail (Has.tail Has.head)))))) rfl ?_
      -- mq: at
      refine RW.move rfl rfl ?_
      refine RW.guardF rfl rfl rfl rfl ?_
      refine RW.guardF rfl rfl rfl rfl ?_
      refine RW.pickB rfl rfl rfl rfl ?_
      refine RW.move rfl rfl ?_
      refine RW.guardF rfl rfl rfl rfl ?_
      refine RW.guardF rfl rfl rfl rfl ?_
      refine RW.guardF rfl rfl rfl rfl ?_
      refine RW.guardF rfl rfl rfl rfl ?_
      refine RW.pickB rfl rfl rfl rfl ?_
      refine RW.nilChk rfl rfl ?_
      refine RW.fieldB fl68x1 rfl rfl ?_
      refine RW.store1 sc4 rfl rfl (by first | exact Upd.head | exact Upd.tail Upd.head | exact Upd.tail (Upd.tail Upd.head) | exact Upd.tail (Upd.tail (Upd.tail Upd.head)) | exact Upd.tail (Upd.tail (Upd.tail (Upd.tail Upd.head))) | exact Upd.tail (Upd.tail (Upd.tail (Upd.tail (Upd.tail Upd.head)))) | exact Upd.tail (Upd.tail (Upd.tail (Upd.tail (Upd.tail (Upd.tail Upd.head)))))) rfl (by first | exact Nat.le_of_ble_eq_true rfl | simp) ?_
      refine RW.nil (EX.seq (CW.seq (CW.region ?_)))
      refine RW.move rfl rfl ?_
      refine RW.assign rfl rfl ?_
      refine RW.nil (EX.seq (CW.ret ?_))
      refine EX.fin1 Tryd.results38 rfl (fun wz hw => ?_)
      -- mq: done
      exact RetU.of (y, true) ⟨fun _ => rfl, fun m hm => by rw [hno] at hm; cases hm⟩ (hw.unbase hx12 hcv)
    | false =>
      refine CW.region ?_
      refine RW.move rfl rfl ?_
      refine RW.move rfl rfl ?_
      refine RW.nilChk rfl rfl ?_
      refine RW.fieldB fl68x1 rfl rfl ?_
      refine RW.loadB1 sc4 rfl rfl (by first | exact Has.head | exact Has.tail Has.head | exact Has.tail (Has.tail Has.head) | exact Has.tail (Has.tail (Has.tail Has.head)) | exact Has.tail (Has.tail (Has.tail (Has.tail Has.head))) | exact Has.tail (Has.tail (Has.tail (Has.tail (Has.tail Has.head)))) | exact Has.tail (Has.tail (Has.tail (Has.tail (Has.tail (Has.tail Has.head)))))) rfl ?_
      refine RW.move rfl rfl ?_
      refine RW.guardT rfl rfl rfl ?_
      refine RW.move rfl rfl ?_
      refine RW.guardT rfl rfl rfl ?_
      refine RW.neqErr (by kernel_rfl) rfl rfl ?_
      refine RW.pickC rfl rfl rfl rfl ?_
      refine RW.move rfl rfl ?_
      refine RW.guardF rfl rfl rfl rfl ?_
      refine RW.guardF rfl rfl rfl rfl ?_
      refine RW.guardF rfl rfl rfl rfl ?_
      refine RW.guardF rfl rfl rfl rfl ?_
      refine RW.pickB rfl rfl rfl rfl ?_
      refine RW.nilChk rfl rfl ?_
      refine RW.fieldB fl68x1 rfl rfl ?_
      refine RW.store1 sc4 rfl rfl (by first | exact Upd.head | exact Upd.tail Upd.head | exact Upd.tail (Upd.tail Upd.head) | exact Upd.tail (Upd.tail (Upd.tail Upd.head)) | exact Upd.tail (Upd.tail (Upd.tail (Upd.tail Upd.head))) | exact Upd.tail (Upd.tail (Upd.tail (Upd.tail (Upd.tail Upd.head)))) | exact Upd.tail (Upd.tail (Upd.tail (Upd.tail (Upd.tail (Upd.tail Upd.head)))))) rfl (by first | exact Nat.le_of_ble_eq_true rfl | simp) ?_
      refine RW.nil (EX.seq (CW.seq (CW.region ?_)))
      refine RW.move rfl rfl ?_
      refine RW.assign rfl rfl ?_
      refine RW.nil (EX.seq (CW.ret ?_))
      refine EX.fin1 Tryd.results38 rfl (fun wz hw => ?_)
      -- mq: done
      exact RetU.of (y, true) ⟨fun _ => rfl, fun m hm => by rw [hno] at hm; cases hm⟩ (hw.unbase hx12 hcv)
end Go.Proofs.YtnkdabjahmjdoaaDoor.Mq

namespace Go.Proofs.YtnkdabjahmjdoaaDoor.Mq
open Go Go.RowKit Go.Proofs

def pu14_ren : Shelf.Ren := ⟨fun | 14 => 56 | 16 => 70 | 17 => 71 | 19 => 86 | 20 => 87 | 21 => 88 | 22 => 89 | 23 => 90 | 24 => 91 | 25 => 101 | 26 => 102 | 27 => 24 | 28 => 52 | 29 => 65 | 30 => 61 | 31 => 62 | 32 => 63 | 33 => 64 | 34 => 76 | 35 => 77 | 36 => 78 | 37 => 79 | 38 => 80 | 39 => 94 | 40 => 95 | n => n, fun | 0 => 0 | 2 => 2 | 3 => 3 | 4 => 4 | 5 => 5 | 9 => 9 | 20 => 20 | 21 => 21 | 22 => 22 | 24 => 81 | 25 => 90 | 34 => 114 | 36 => 87 | 37 => 53 | 39 => 116 | 44 => 123 | 47 => 92 | 48 => 133 | 50 => 135 | 52 => 93 | 55 => 96 | 59 => 106 | 60 => 107 | 61 => 108 | 65 => 125 | 66 => 126 | 67 => 69 | n => n, fun | 0 => 2 | 1 => 3 | 2 => 0 | 3 => 4 | 4 => 5 | n => n⟩
theorem pu14 : LaysPu.n14 Tryd.prog pu14_ren where
  mixed := by kernel_rfl
  f14 := Tryd.func56.trans (congrArg some (by kernel_rfl))
  f16 := Tryd.func70.trans (congrArg some (by kernel_rfl))
  f17 := Tryd.func71.trans (congrArg some (by kernel_rfl))
  f19 := Tryd.func86.trans (congrArg some (by kernel_rfl))
  f20 := Tryd.func87.trans (congrArg some (by kernel_rfl))
  f21 := Tryd.func88.trans (congrArg some (by kernel_rfl))
  f22 := Tryd.func89.trans (congrArg some (by kernel_rfl))
  f23 := Tryd.func90.trans (congrArg some (by kernel_rfl))
  f24 := Tryd.func91.trans (congrArg some (by kernel_rfl))
  f25 := Tryd.func101.trans (congrArg some (by kernel_rfl))
  f26 := Tryd.func102.trans (congrArg some (by kernel_rfl))
  f27 := Tryd.func24.trans (congrArg some (by kernel_rfl))
  f28 := Tryd.func52.trans (congrArg some (by kernel_rfl))
  f29 := Tryd.func65.trans (congrArg some (by kernel_rfl))
  f30 := Tryd.func61.trans (congrArg some (by kernel_rfl))
  f31 := Tryd.func62.trans (congrArg some (by kernel_rfl))
  f32 := Tryd.func63.trans (congrArg some (by kernel_rfl))
  f33 := Tryd.func64.trans (congrArg some (by kernel_rfl))
  f34 := Tryd.func76.trans (congrArg some (by kernel_rfl))
  f35 := Tryd.func77.trans (congrArg some (by kernel_rfl))
  f36 := Tryd.func78.trans (congrArg some (by kernel_rfl))
  f37 := Tryd.func79.trans (congrArg some (by kernel_rfl))
  f38 := Tryd.func80.trans (congrArg some (by kernel_rfl))
  f39 := Tryd.func94.trans (congrArg some (by kernel_rfl))
  f40 := Tryd.func95.trans (congrArg some (by kernel_rfl))
  t0 := Tryd.underlying0
  a0 := Tryd.isAgg0
  z0 := Tryd.sizeOf0
  v0 := Tryd.zeroValue0
  i0 := by kernel_rfl
  t2 := Tryd.underlying2
  a2 := Tryd.isAgg2
  z2 := Tryd.sizeOf2
  v2 := Tryd.zeroValue2
  i2 := by kernel_rfl
  t3 := Tryd.underlying3
  a3 := Tryd.isAgg3
  z3 := Tryd.sizeOf3
  v3 := Tryd.zeroValue3
  i3 := by kernel_rfl
  t4 := Tryd.underlying4
  a4 := Tryd.isAgg4
  z4 := Tryd.sizeOf4
  v4 := Tryd.zeroValue4
  i4 := by kernel_rfl
  t5 := Tryd.underlying5
  a5 := Tryd.isAgg5
  z5 := Tryd.sizeOf5
  v5 := Tryd.zeroValue5
  i5 := by kernel_rfl
  t9 := Tryd.underlying9
  a9 := Tryd.isAgg9
  z9 := Tryd.sizeOf9
  v9 := Tryd.zeroValue9
  i9 := by kernel_rfl
  t20 := Tryd.underlying20
  a20 := Tryd.isAgg20
  z20 := Tryd.sizeOf20
  v20 := Tryd.zeroValue20
  i20 := by kernel_rfl
  t21 := Tryd.underlying21
  a21 := Tryd.isAgg21
  z21 := Tryd.sizeOf21
  v21 := Tryd.zeroValue21
  i21 := by kernel_rfl
  t22 := Tryd.underlying22
  a22 := Tryd.isAgg22
  z22 := Tryd.sizeOf22
  v22 := Tryd.zeroValue22
  i22 := by kernel_rfl
  t24 := Tryd.underlying81
  a24 := Tryd.isAgg81
  z24 := Tryd.sizeOf81
  v24 := Tryd.zeroValue81
  i24 := by kernel_rfl
  t25 := Tryd.underlying90
  a25 := Tryd.isAgg90
  z25 := Tryd.sizeOf90
  v25 := Tryd.zeroValue90
  i25 := by kernel_rfl
  t34 := Tryd.underlying114
  a34 := Tryd.isAgg114
  z34 := Tryd.sizeOf114
  v34 := Tryd.zeroValue114
  i34 := by kernel_rfl
  c34 := by kernel_rfl
  t36 := Tryd.underlying87
  a36 := Tryd.isAgg87
  z36 := Tryd.sizeOf87
  v36 := Tryd.zeroValue87
  i36 := by kernel_rfl
  t37 := Tryd.underlying53
  a37 := Tryd.isAgg53
  z37 := Tryd.sizeOf53
  v37 := Tryd.zeroValue53
  i37 := by kernel_rfl
  t39 := Tryd.underlying116
  a39 := Tryd.isAgg116
  z39 := Tryd.sizeOf116
  v39 := Tryd.zeroValue116
  i39 := by kernel_rfl
  t44 := Tryd.underlying123
  a44 := Tryd.isAgg123
  z44 := Tryd.sizeOf123
  v44 := Tryd.zeroValue123
  i44 := by kernel_rfl
  t47 := Tryd.underlying92
  a47 := Tryd.isAgg92
  z47 := Tryd.sizeOf92
  v47 := Tryd.zeroValue92
  i47 := by kernel_rfl
  t48 := Tryd.underlying133
  a48 := Tryd.isAgg133
  z48 := Tryd.sizeOf133
  v48 := Tryd.zeroValue133
  i48 := by kernel_rfl
  t50 := Tryd.underlying135
  a50 := Tryd.isAgg135
  z50 := Tryd.sizeOf135
  v50 := Tryd.zeroValue135
  i50 := by kernel_rfl
  t52 := Tryd.underlying93
  a52 := Tryd.isAgg93
  z52 := Tryd.sizeOf93
  v52 := Tryd.zeroValue93
  i52 := by kernel_rfl
  t55 := Tryd.underlying96
  a55 := Tryd.isAgg96
  z55 := Tryd.sizeOf96
  v55 := Tryd.zeroValue96
  i55 := by kernel_rfl
  t59 := Tryd.underlying106
  a59 := Tryd.isAgg106
  z59 := Tryd.sizeOf106
  v59 := Tryd.zeroValue106
  i59 := by kernel_rfl
  t60 := Tryd.underlying107
  a60 := Tryd.isAgg107
  z60 := Tryd.sizeOf107
  v60 := Tryd.zeroValue107
  i60 := by kernel_rfl
  t61 := Tryd.underlying108
  a61 := Tryd.isAgg108
  z61 := Tryd.sizeOf108
  t65 := Tryd.underlying125
  a65 := Tryd.isAgg125
  z65 := Tryd.sizeOf125
  v65 := Tryd.zeroValue125
  i65 := by kernel_rfl
  t66 := Tryd.underlying126
  a66 := Tryd.isAgg126
  z66 := Tryd.sizeOf126
  v66 := Tryd.zeroValue126
  i66 := by kernel_rfl
  t67 := Tryd.underlying69
  a67 := Tryd.isAgg69
  z67 := Tryd.sizeOf69
  v67 := Tryd.zeroValue69
  i67 := by kernel_rfl
  g0 := by kernel_rfl
  m0 := by kernel_rfl
  g1 := by kernel_rfl
  m1 := by kernel_rfl
  g2 := by kernel_rfl
  m2 := by kernel_rfl
  g3 := by kernel_rfl
  m3 := by kernel_rfl
  g4 := by kernel_rfl
  m4 := by kernel_rfl
theorem caPu : CaT Tryd.prog 56 := CaT.of Tryd.func56 (by kernel_rfl) (by kernel_rfl)
theorem puOk_c (w : World) (s : List UInt8) (u : Nat) (hs : s.length ≤ 1000000) (h : Lib.parseUintB 64 s = .ok u) :
    Calls Tryd.prog 56 [.string (bs s), .int .i64 10, .int .i64 64].toArray w (fun e w' => e = .returned (.tuple #[.int .u64 (u : Int), .nilIface]) ∧ Ext [] w w') := by
  refine (Any.strconv_ParseUint_10_at64_ok pu14 (bs s) (by rw [bs_size]; omega) u h w).mono ?_
  rintro e w' ⟨rfl, rfl | rfl⟩
  · exact ⟨rfl, Ext.refl _ _⟩
  · exact ⟨rfl, Ext.of_below (Lib.bytesWorld_below w _ _)⟩
def IsErrU (v : Value) : Prop := ∃ (x : Nat) (t : TypeId) (p : Value), v = .tuple #[.int .u64 (x : Int), .iface t p]
theorem puNo_c (w : World) (hg : Ge w) (s : List UInt8) (hs : s.length ≤ 1000000) (h : ∀ u, Lib.parseUintB 64 s ≠ .ok u) :
    Calls Tryd.prog 56 [.string (bs s), .int .i64 10, .int .i64 64].toArray w (RetA (fun v _ => IsErrU v) w) := by
  obtain ⟨⟨t, p, hm⟩, ⟨t2, p2, hm2⟩⟩ := hg
  cases hc : Lib.parseUintB 64 s with
  | ok v => exact absurd hc (h v)
  | «syntax» =>
    refine (Any.strconv_ParseUint_10_at64_syntax pu14 (bs s) (by rw [bs_size]; omega) hc _ w hm (.inr ⟨t, p, rfl⟩)).mono ?_
    rintro e w' ⟨N, rfl, _, _, hb⟩
    exact ⟨_, rfl, Ext.of_below hb, 0, _, _, rfl⟩
  | range =>
    refine (Any.strconv_ParseUint_10_at64_range pu14 (bs s) (by rw [bs_size]; omega) hc _ w hm2 (.inr ⟨t2, p2, rfl⟩)).mono ?_
    rintro e w' ⟨N, rfl, _, _, hb⟩
    exact ⟨_, rfl, Ext.of_below hb, 18446744073709551615, _, _, rfl⟩
theorem idF_ok {s : List UInt8} {u : Nat} (h : Lib.parseUintB 64 s = .ok u) : idF s = if Lib.decDigits u = s then some u else none := by
  have hu := Lib.parseUintB_le h
  split
  · rename_i he
    exact idF_iff.2 ⟨he, by omega⟩
  · rename_i he
    cases hi : idF s with
    | none => rfl
    | some n =>
      obtain ⟨h1, h2⟩ := idF_iff.1 hi
      have := parseU_dec h2
      rw [h1, h] at this
      cases this
      exact absurd h1 he
theorem idF_no {s : List UInt8} (h : ∀ u, Lib.parseUintB 64 s ≠ .ok u) : idF s = none := by
  cases hi : idF s with
  | none => rfl
  | some n =>
    obtain ⟨h1, h2⟩ := idF_iff.1 hi
    exact absurd (h1 ▸ parseU_dec h2) (h n)
def IdR (x : List UInt8) (bad : Bool) (i : Int × Bool) : Prop := (idF x = none → i.2 = true) ∧ (∀ n : Nat, idF x = some n → i = ((n : Int), bad)) ∧ 0 ≤ i.1
theorem idR_c (w : World) (g : Nat) (hG : GR w g) (s : WS) (bad : Bool) (F : Nat → Prop) (x : List UInt8) (L : List (List UInt8)) (hr : RdW w F s (x :: L)) (hF : ¬ F g) (hxl : x.length ≤ 1000000) (h : (rdr g s bad).pred w) :
    Calls Tryd.prog 35 [.pointer (some ⟨g, 0, none⟩)].toArray w (RetU (fun i : Int × Bool => .int .u64 i.1) (rdr g s bad) (fun i => rdr g s.adv i.2) (IdR x bad) w) := by
  refine calls (n := 33) Tryd.func35 rfl Tryd.ntmps35 rfl ?_
  refine CW.sub (H' := SH w (rdr g s bad).foot [rdr g s bad]) ?_ (Sub.refl _) (fun x hx => SH.startOf' hx h (by simp [blk]))
  refine CW.seq (CW.region ?_)
  refine RW.assign rfl rfl ?_
  refine RW.nil (EX.seq (CW.seq ?_))
  -- mq: region
  refine CW.region ?_
  refine RW.move rfl rfl ?_
  refine RW.nilChk rfl rfl ?_
  refine RW.fieldP fl68x0 rfl rfl ?_
  refine RW.callUI (fun _ => [rdr g s.adv bad]) rfl ca34 rfl (fun _ => Upd.head) (fun w' hw' => next_c w' g s bad F x L (hFext hr hF hw'.ext) hF (hw'.has Has.head)) (fun _ _ => ?_)
  refine RW.assign rfl rfl ?_
  refine RW.nil (EX.seq (CW.seq ?_))
  -- mq: region
  by_cases hx : ∃ v, Lib.parseUintB 64 x = .ok v
  · skip
    obtain ⟨v, hok⟩ := hx
    have hn := Lib.parseUintB_le hok
    refine CW.region ?_
    refine RW.move rfl rfl ?_
    refine RW.call rfl caPu rfl (fun w' _ => puOk_c w' x v hxl hok) ?_
    refine RW.move rfl rfl ?_
    refine RW.extract rfl rfl rfl ?_
    refine RW.extract rfl rfl rfl ?_
    refine RW.assign rfl rfl ?_
    refine RW.assign rfl rfl ?_
    refine RW.nil (EX.seq (CW.seq ?_))
    -- mq: region
    cases bad with
    | true =>
      refine CW.region ?_
      refine RW.move rfl rfl ?_
      refine RW.move rfl rfl ?_
      refine RW.nilChk rfl rfl ?_
      refine RW.fieldB fl68x1 rfl rfl ?_
      refine RW.loadB1 sc4 rfl rfl (by first | exact Has.head | exact Has.tail Has.head | exact Has.tail (Has.tail Has.head) | exact Has.tail (Has.tail (Has.tail Has.head)) | exact Has.tail (Has.tail (Has.tail (Has.tail Has.head))) | exact Has.tail (Has.tail (Has.tail (Has.tail (Has.tail Has.head)))) | exact Has.tail (Has.tail (Has.tail (Has.tail (Has.tail (Has.tail Has.head)))))) rfl ?_
      -- mq: at
      refine RW.move rfl rfl ?_
      refine RW.guardF rfl rfl rfl rfl ?_
      refine RW.guardF rfl rfl rfl rfl ?_
      refine RW.pickB rfl rfl rfl rfl ?_
      refine RW.move rfl rfl ?_
      refine RW.guardF rfl rfl rfl rfl ?_
      refine RW.guardF rfl rfl rfl rfl ?_
      refine RW.guardF rfl rfl rfl rfl ?_
      refine RW.guardF rfl rfl rfl rfl ?_
      refine RW.pickB rfl rfl rfl rfl ?_
      refine RW.nilChk rfl rfl ?_
      refine RW.fieldB fl68x1 rfl rfl ?_
      refine RW.store1 sc4 rfl rfl (by first | exact Upd.head | exact Upd.tail Upd.head | exact Upd.tail (Upd.tail Upd.head) | exact Upd.tail (Upd.tail (Upd.tail Upd.head)) | exact Upd.tail (Upd.tail (Upd.tail (Upd.tail Upd.head))) | exact Upd.tail (Upd.tail (Upd.tail (Upd.tail (Upd.tail Upd.head)))) | exact Upd.tail (Upd.tail (Upd.tail (Upd.tail (Upd.tail (Upd.tail Upd.head)))))) rfl (by first | exact Nat.le_of_ble_eq_true rfl | simp) ?_
      refine RW.nil (EX.seq (CW.seq (CW.region ?_)))
      refine RW.move rfl rfl ?_
      refine RW.assign rfl rfl ?_
      refine RW.nil (EX.seq (CW.ret ?_))
      refine EX.fin1 Tryd.results35 rfl (fun wz hw => ?_)
      -- mq: done
      refine RetU.of ((v : Int), true) ⟨fun _ => rfl, fun m hm => ?_, by dsimp only; omega⟩ hw
      rw [idF_ok hok] at hm
      split at hm
      · cases hm; rfl
      · cases hm
    | false =>
      refine CW.region ?_
      refine RW.move rfl rfl ?_
      refine RW.move rfl rfl ?_
      refine RW.nilChk rfl rfl ?_
      refine RW.fieldB fl68x1 rfl rfl ?_
      refine RW.loadB1 sc4 rfl rfl (by first | exact Has.head | exact Has.tail Has.head | exact Has.tail (Has.tail Has.head) | exact Has.tail (Has.tail (Has.tail Has.head)) | exact Has.tail (Has.tail (Has.tail (Has.tail Has.head))) | exact Has.tail (Has.tail (Has.tail (Has.tail (Has.tail Has.head)))) | exact Has.tail (Has.tail (Has.tail (Has.tail (Has.tail (Has.tail Has.head)))))) rfl ?_
      refine RW.move rfl rfl ?_
      refine RW.guardT rfl rfl rfl ?_
      refine RW.move rfl rfl ?_
      refine RW.guardT rfl rfl rfl ?_
      refine RW.neqNilAt (by kernel_rfl) rfl rfl ?_
      refine RW.pickC rfl rfl rfl rfl ?_
      refine RW.move rfl rfl ?_
      refine RW.guardT rfl rfl rfl ?_
      refine RW.move rfl rfl ?_
      refine RW.guardT rfl rfl rfl ?_
      refine RW.call rfl caFU rfl (fun w' hw' => formatUint_c w' (hG.gl hw'.ext).1 v (by omega)) ?_
      refine RW.guardT rfl rfl rfl ?_
      refine RW.move rfl rfl ?_
      refine RW.guardT rfl rfl rfl ?_
      refine RW.neqS rfl rfl rfl ?_
      refine RW.pickC rfl rfl rfl rfl ?_
      refine RW.nilChk rfl rfl ?_
      refine RW.fieldB fl68x1 rfl rfl ?_
      refine RW.store1 sc4 rfl rfl (by first | exact Upd.head | exact Upd.tail Upd.head | exact Upd.tail (Upd.tail Upd.head) | exact Upd.tail (Upd.tail (Upd.tail Upd.head)) | exact Upd.tail (Upd.tail (Upd.tail (Upd.tail Upd.head))) | exact Upd.tail (Upd.tail (Upd.tail (Upd.tail (Upd.tail Upd.head)))) | exact Upd.tail (Upd.tail (Upd.tail (Upd.tail (Upd.tail (Upd.tail Upd.head)))))) rfl (by first | exact Nat.le_of_ble_eq_true rfl | simp) ?_
      refine RW.nil (EX.seq (CW.seq (CW.region ?_)))
      refine RW.move rfl rfl ?_
      refine RW.assign rfl rfl ?_
      refine RW.nil (EX.seq (CW.ret ?_))
      refine EX.fin1 Tryd.results35 rfl (fun wz hw => ?_)
      -- mq: done
      refine RetU.of ((v : Int), decide (Lib.decDigits v ≠ x)) ⟨fun hnn => ?_, fun m hm => ?_, by dsimp only; omega⟩ hw
      · rw [idF_ok hok] at hnn
        split at hnn
        · cases hnn
        · rename_i he; exact decide_eq_true he
      · rw [idF_ok hok] at hm
        split at hm
        · rename_i he; cases hm; rw [decide_eq_false (fun e => e he)]
        · cases hm
  · skip
    have hno := idF_no (fun v hv => hx ⟨v, hv⟩)
    refine CW.region ?_
    refine RW.move rfl rfl ?_
    -- mq: at
    refine RW.callA (R := fun _ v _ => IsErrU v) rfl caPu rfl (fun w' hw' => puNo_c w' (hG.gl hw'.ext).2 x hxl (fun v hv => hx ⟨v, hv⟩)) (fun w1 w2 v hw1 he12 hw2 hlt hv => ?_)
    obtain ⟨y, t, p, rfl⟩ := hv
    have hx12 := hw1.ext.trans0 he12
    have hcv := hw1.cov
    refine RW.move rfl rfl ?_
    refine RW.extract rfl rfl rfl ?_
    refine RW.extract rfl rfl rfl ?_
    refine RW.assign rfl rfl ?_
    refine RW.assign rfl rfl ?_
    refine RW.nil (EX.seq (CW.seq ?_))
    -- mq: region
    cases bad with
    | true =>
      refine CW.region ?_
      refine RW.move rfl rfl ?_
      refine RW.move rfl rfl ?_
      refine RW.nilChk rfl rfl ?_
      refine RW.fieldB fl68x1 rfl rfl ?_
      refine RW.loadB1 sc4 rfl rfl (by first | exact Has.head | exact Has.tail Has.head | exact Has.tail (Has.tail Has.head) | exact Has.tail (Has.tail (Has.tail Has.head)) | exact Has.tail (Has.tail (Has.tail (Has.tail Has.head))) | exact Has.tail (Has.tail (Has.tail (Has.tail (Has.tail Has.head)))) | exact Has.tail (Has.tail (Has.tail (Has.tail (Has.tail (Has.tail Has.head)))))) rfl ?_
      -- mq: at
      refine RW.move rfl rfl ?_
      refine RW.guardF rfl rfl rfl rfl ?_
      refine RW.guardF rfl rfl rfl rfl ?_
      refine RW.pickB rfl rfl rfl rfl ?_
      refine RW.move rfl rfl ?_
      refine RW.guardF rfl rfl rfl rfl ?_
      refine RW.guardF rfl rfl rfl rfl ?_
      refine RW.guardF rfl rfl rfl rfl ?_
      refine RW.guardF rfl rfl rfl rfl ?_
      refine RW.pickB rfl rfl rfl rfl ?_
      refine RW.nilChk rfl rfl ?_
      refine RW.fieldB fl68x1 rfl rfl ?_
      refine RW.store1 sc4 rfl rfl (by first | exact Upd.head | exact Upd.tail Upd.head | exact Upd.tail (Upd.tail Upd.head) | exact Upd.tail (Upd.tail (Upd.tail Upd.head)) | exact Upd.tail (Upd.tail (Upd.tail (Upd.tail Upd.head))) | exact Upd.tail (Upd.tail (Upd.tail (Upd.tail (Upd.tail Upd.head)))) | exact Upd.tail (Upd.tail (Upd.tail (Upd.tail (Upd.tail (Upd.tail Upd.head)))))) rfl (by first | exact Nat.le_of_ble_eq_true rfl | simp) ?_
      refine RW.nil (EX.seq (CW.seq (CW.region ?_)))
      refine RW.move rfl rfl ?_
      refine RW.assign rfl rfl ?_
      refine RW.nil (EX.seq (CW.ret ?_))
      refine EX.fin1 Tryd.results35 rfl (fun wz hw => ?_)
      -- mq: done
      exact RetU.of ((y : Int), true) ⟨fun _ => rfl, fun m hm => (by rw [hno] at hm; cases hm), by dsimp only; omega⟩ (hw.unbase hx12 hcv)
    | false =>
      refine CW.region ?_
      refine RW.move rfl rfl ?_
      refine RW.move rfl rfl ?_
      refine RW.nilChk rfl rfl ?_
      refine RW.fieldB fl68x1 rfl rfl ?_
      refine RW.loadB1 sc4 rfl rfl (by first | exact Has.head | exact Has.tail Has.head | exact Has.tail (Has.tail Has.head) | exact Has.tail (Has.tail (Has.tail Has.head)) | exact Has.tail (Has.tail (Has.tail (Has.tail Has.head))) | exact Has.tail (Has.tail (Has.tail (Has.tail (Has.tail Has.head)))) | exact Has.tail (Has.tail (Has.tail (Has.tail (Has.tail (Has.tail Has.head)))))) rfl ?_
      refine RW.move rfl rfl ?_
      refine RW.guardT rfl rfl rfl ?_
      refine RW.move rfl rfl ?_
      refine RW.guardT rfl rfl rfl ?_
      refine RW.neqErr (by kernel_rfl) rfl rfl ?_
      refine RW.pickC rfl rfl rfl rfl ?_
      refine RW.move rfl rfl ?_
      refine RW.guardF rfl rfl rfl rfl ?_
      refine RW.guardF rfl rfl rfl rfl ?_
      refine RW.guardF rfl rfl rfl rfl ?_
      refine RW.guardF rfl rfl rfl rfl ?_
      refine RW.pickB rfl rfl rfl rfl ?_
      refine RW.nilChk rfl rfl ?_
      refine RW.fieldB fl68x1 rfl rfl ?_
      refine RW.store1 sc4 rfl rfl (by first | exact Upd.head | exact Upd.tail Upd.head | exact Upd.tail (Upd.tail Upd.head) | exact Upd.tail (Upd.tail (Upd.tail Upd.head)) | exact Upd.tail (Upd.tail (Upd.tail (Upd.tail Upd.head))) | exact Upd.tail (Upd.tail (Upd.tail (Upd.tail (Upd.tail Upd.head)))) | exact Upd.tail (Upd.tail (Upd.tail (Upd.tail (Upd.tail (Upd.tail Upd.head)))))) rfl (by first | exact Nat.le_of_ble_eq_true rfl | simp) ?_
      refine RW.nil (EX.seq (CW.seq (CW.region ?_)))
      refine RW.move rfl rfl ?_
      refine RW.assign rfl rfl ?_
      refine RW.nil (EX.seq (CW.ret ?_))
      refine EX.fin1 Tryd.results35 rfl (fun wz hw => ?_)
      -- mq: done
      exact RetU.of ((y : Int), true) ⟨fun _ => rfl, fun m hm => (by rw [hno] at hm; cases hm), by dsimp only; omega⟩ (hw.unbase hx12 hcv)
theorem eitherR_c (w : World) (g : Nat) (s : WS) (bad : Bool) (F : Nat → Prop) (x a b : List UInt8) (L : List (List UInt8)) (hr : RdW w F s (x :: L)) (hF : ¬ F g) (h : (rdr g s bad).pred w) :
    Calls Tryd.prog 37 [.pointer (some ⟨g, 0, none⟩), .string (bs a), .string (bs b)].toArray w (RetU (fun _ : Unit => .bool (decide (x = a))) (rdr g s bad) (fun _ => rdr g s.adv (bad || (decide (x ≠ a) && decide (x ≠ b)))) (fun _ => True) w) := by
  refine calls (n := 32) Tryd.func37 rfl Tryd.ntmps37 rfl ?_
  refine CW.sub (H' := SH w (rdr g s bad).foot [rdr g s bad]) ?_ (Sub.refl _) (fun x hx => SH.startOf' hx h (by simp [blk]))
  refine CW.seq (CW.region ?_)
  refine RW.assign rfl rfl ?_
  refine RW.nil (EX.seq (CW.seq ?_))
  -- mq: region
  refine CW.region ?_
  refine RW.move rfl rfl ?_
  refine RW.nilChk rfl rfl ?_
  refine RW.fieldP fl68x0 rfl rfl ?_
  refine RW.callUI (fun _ => [rdr g s.adv bad]) rfl ca34 rfl (fun _ => Upd.head) (fun w' hw' => next_c w' g s bad F x L (hFext hr hF hw'.ext) hF (hw'.has Has.head)) (fun _ _ => ?_)
  refine RW.assign rfl rfl ?_
  refine RW.nil (EX.seq (CW.seq ?_))
  -- mq: region
  cases bad with
  | true =>
    refine CW.region ?_
    refine RW.move rfl rfl ?_
    refine RW.move rfl rfl ?_
    refine RW.nilChk rfl rfl ?_
    refine RW.fieldB fl68x1 rfl rfl ?_
    refine RW.loadB1 sc4 rfl rfl (by first | exact Has.head | exact Has.tail Has.head | exact Has.tail (Has.tail Has.head) | exact Has.tail (Has.tail (Has.tail Has.head)) | exact Has.tail (Has.tail (Has.tail (Has.tail Has.head))) | exact Has.tail (Has.tail (Has.tail (Has.tail (Has.tail Has.head)))) | exact Has.tail (Has.tail (Has.tail (Has.tail (Has.tail (Has.tail Has.head)))))) rfl ?_
    -- mq: at
    refine RW.move rfl rfl ?_
    refine RW.guardF rfl rfl rfl rfl ?_
    refine RW.guardF rfl rfl rfl rfl ?_
    refine RW.guardF rfl rfl rfl rfl ?_
    refine RW.guardF rfl rfl rfl rfl ?_
    refine RW.guardU rfl rfl rfl ?_
    refine RW.guardU rfl rfl rfl ?_
    refine RW.guardU rfl rfl rfl ?_
    refine RW.guardF rfl rfl rfl rfl ?_
    refine RW.pickB rfl rfl rfl rfl ?_
    refine RW.nilChk rfl rfl ?_
    refine RW.fieldB fl68x1 rfl rfl ?_
    refine RW.store1 sc4 rfl rfl (by first | exact Upd.head | exact Upd.tail Upd.head | exact Upd.tail (Upd.tail Upd.head) | exact Upd.tail (Upd.tail (Upd.tail Upd.head)) | exact Upd.tail (Upd.tail (Upd.tail (Upd.tail Upd.head))) | exact Upd.tail (Upd.tail (Upd.tail (Upd.tail (Upd.tail Upd.head)))) | exact Upd.tail (Upd.tail (Upd.tail (Upd.tail (Upd.tail (Upd.tail Upd.head)))))) rfl (by first | exact Nat.le_of_ble_eq_true rfl | simp) ?_
    refine RW.nil (EX.seq (CW.seq (CW.region ?_)))
    refine RW.move rfl rfl ?_
    refine RW.move rfl rfl ?_
    refine RW.eqlS rfl rfl rfl ?_
    refine RW.assign rfl rfl ?_
    refine RW.nil (EX.seq (CW.ret ?_))
    refine EX.fin1 Tryd.results37 rfl (fun wz hw => ?_)
    -- mq: done
    exact RetU.of () trivial hw
  | false =>
    refine CW.region ?_
    refine RW.move rfl rfl ?_
    refine RW.move rfl rfl ?_
    refine RW.nilChk rfl rfl ?_
    refine RW.fieldB fl68x1 rfl rfl ?_
    refine RW.loadB1 sc4 rfl rfl (by first | exact Has.head | exact Has.tail Has.head | exact Has.tail (Has.tail Has.head) | exact Has.tail (Has.tail (Has.tail Has.head)) | exact Has.tail (Has.tail (Has.tail (Has.tail Has.head))) | exact Has.tail (Has.tail (Has.tail (Has.tail (Has.tail Has.head)))) | exact Has.tail (Has.tail (Has.tail (Has.tail (Has.tail (Has.tail Has.head)))))) rfl ?_
    refine RW.move rfl rfl ?_
    refine RW.guardT rfl rfl rfl ?_
    refine RW.move rfl rfl ?_
    refine RW.guardT rfl rfl rfl ?_
    refine RW.move rfl rfl ?_
    refine RW.guardT rfl rfl rfl ?_
    refine RW.neqS rfl rfl rfl ?_
    refine RW.guardT rfl rfl rfl ?_
    refine RW.move rfl rfl ?_
    -- mq: guard slot 21
    refine RW.casesB 21 rfl (fun h1 => ?_) (fun h1 => ?_)
    · skip
      have h1p := of_decide_eq_true h1
      refine RW.guardT rfl rfl h1 ?_
      refine RW.move rfl rfl ?_
      refine RW.guardT rfl rfl h1 ?_
      refine RW.move rfl rfl ?_
      refine RW.guardT rfl rfl h1 ?_
      refine RW.neqS rfl rfl rfl ?_
      refine RW.guardT rfl rfl rfl ?_
      refine RW.pickB rfl rfl h1 rfl ?_
      refine RW.pickC rfl rfl rfl rfl ?_
      refine RW.nilChk rfl rfl ?_
      refine RW.fieldB fl68x1 rfl rfl ?_
      refine RW.store1 sc4 rfl rfl (by first | exact Upd.head | exact Upd.tail Upd.head | exact Upd.tail (Upd.tail Upd.head) | exact Upd.tail (Upd.tail (Upd.tail Upd.head)) | exact Upd.tail (Upd.tail (Upd.tail (Upd.tail Upd.head))) | exact Upd.tail (Upd.tail (Upd.tail (Upd.tail (Upd.tail Upd.head)))) | exact Upd.tail (Upd.tail (Upd.tail (Upd.tail (Upd.tail (Upd.tail Upd.head)))))) rfl (by first | exact Nat.le_of_ble_eq_true rfl | simp) ?_
      refine RW.nil (EX.seq (CW.seq (CW.region ?_)))
      refine RW.move rfl rfl ?_
      refine RW.move rfl rfl ?_
      refine RW.eqlS rfl rfl rfl ?_
      refine RW.assign rfl rfl ?_
      refine RW.nil (EX.seq (CW.ret ?_))
      refine EX.fin1 Tryd.results37 rfl (fun wz hw => ?_)
      -- mq: done
      refine RetU.of () trivial ?_
      rw [decide_eq_true h1p]
      exact hw
    · skip
      have h1p := of_decide_eq_false h1
      refine RW.guardF rfl rfl rfl h1 ?_
      refine RW.guardF rfl rfl rfl h1 ?_
      refine RW.guardF rfl rfl rfl h1 ?_
      refine RW.guardT rfl rfl rfl ?_
      refine RW.pickC rfl rfl h1 rfl ?_
      refine RW.pickC rfl rfl rfl rfl ?_
      refine RW.nilChk rfl rfl ?_
      refine RW.fieldB fl68x1 rfl rfl ?_
      refine RW.store1 sc4 rfl rfl (by first | exact Upd.head | exact Upd.tail Upd.head | exact Upd.tail (Upd.tail Upd.head) | exact Upd.tail (Upd.tail (Upd.tail Upd.head)) | exact Upd.tail (Upd.tail (Upd.tail (Upd.tail Upd.head))) | exact Upd.tail (Upd.tail (Upd.tail (Upd.tail (Upd.tail Upd.head)))) | exact Upd.tail (Upd.tail (Upd.tail (Upd.tail (Upd.tail (Upd.tail Upd.head)))))) rfl (by first | exact Nat.le_of_ble_eq_true rfl | simp) ?_
      refine RW.nil (EX.seq (CW.seq (CW.region ?_)))
      refine RW.move rfl rfl ?_
      refine RW.move rfl rfl ?_
      refine RW.eqlS rfl rfl rfl ?_
      refine RW.assign rfl rfl ?_
      refine RW.nil (EX.seq (CW.ret ?_))
      refine EX.fin1 Tryd.results37 rfl (fun wz hw => ?_)
      -- mq: done
      refine RetU.of () trivial ?_
      rw [decide_eq_false h1p]
      exact hw
end Go.Proofs.YtnkdabjahmjdoaaDoor.Mq

namespace Go.Proofs.YtnkdabjahmjdoaaDoor.Mq
open Go Go.RowKit Go.Proofs

def pu17_ren : Shelf.Ren := ⟨fun | 17 => 71 | 21 => 88 | 22 => 89 | 23 => 90 | 24 => 91 | 25 => 101 | 26 => 102 | 27 => 24 | 28 => 52 | 29 => 65 | 30 => 61 | 31 => 62 | 32 => 63 | 33 => 64 | 34 => 76 | 35 => 77 | 36 => 78 | 37 => 79 | 38 => 80 | 39 => 94 | 40 => 95 | n => n, fun | 0 => 0 | 2 => 2 | 3 => 3 | 4 => 4 | 5 => 5 | 9 => 9 | 20 => 20 | 22 => 22 | 24 => 81 | 34 => 114 | 36 => 87 | 37 => 53 | 39 => 116 | 44 => 123 | 47 => 92 | 48 => 133 | 50 => 135 | 52 => 93 | 55 => 96 | 59 => 106 | 60 => 107 | 61 => 108 | 65 => 125 | 66 => 126 | 67 => 69 | n => n, fun | 0 => 2 | 1 => 3 | 2 => 0 | 3 => 4 | 4 => 5 | n => n⟩
theorem pu17 : LaysPu.n17 Tryd.prog pu17_ren where
  mixed := by kernel_rfl
  f17 := Tryd.func71.trans (congrArg some (by kernel_rfl))
  f21 := Tryd.func88.trans (congrArg some (by kernel_rfl))
  f22 := Tryd.func89.trans (congrArg some (by kernel_rfl))
  f23 := Tryd.func90.trans (congrArg some (by kernel_rfl))
  f24 := Tryd.func91.trans (congrArg some (by kernel_rfl))
  f25 := Tryd.func101.trans (congrArg some (by kernel_rfl))
  f26 := Tryd.func102.trans (congrArg some (by kernel_rfl))
  f27 := Tryd.func24.trans (congrArg some (by kernel_rfl))
  f28 := Tryd.func52.trans (congrArg some (by kernel_rfl))
  f29 := Tryd.func65.trans (congrArg some (by kernel_rfl))
  f30 := Tryd.func61.trans (congrArg some (by kernel_rfl))
  f31 := Tryd.func62.trans (congrArg some (by kernel_rfl))
  f32 := Tryd.func63.trans (congrArg some (by kernel_rfl))
  f33 := Tryd.func64.trans (congrArg some (by kernel_rfl))
  f34 := Tryd.func76.trans (congrArg some (by kernel_rfl))
  f35 := Tryd.func77.trans (congrArg some (by kernel_rfl))
  f36 := Tryd.func78.trans (congrArg some (by kernel_rfl))
  f37 := Tryd.func79.trans (congrArg some (by kernel_rfl))
  f38 := Tryd.func80.trans (congrArg some (by kernel_rfl))
  f39 := Tryd.func94.trans (congrArg some (by kernel_rfl))
  f40 := Tryd.func95.trans (congrArg some (by kernel_rfl))
  t0 := Tryd.underlying0
  a0 := Tryd.isAgg0
  z0 := Tryd.sizeOf0
  v0 := Tryd.zeroValue0
  i0 := by kernel_rfl
  t2 := Tryd.underlying2
  a2 := Tryd.isAgg2
  z2 := Tryd.sizeOf2
  v2 := Tryd.zeroValue2
  i2 := by kernel_rfl
  t3 := Tryd.underlying3
  a3 := Tryd.isAgg3
  z3 := Tryd.sizeOf3
  v3 := Tryd.zeroValue3
  i3 := by kernel_rfl
  t4 := Tryd.underlying4
  a4 := Tryd.isAgg4
  z4 := Tryd.sizeOf4
  v4 := Tryd.zeroValue4
  i4 := by kernel_rfl
  t5 := Tryd.underlying5
  a5 := Tryd.isAgg5
  z5 := Tryd.sizeOf5
  v5 := Tryd.zeroValue5
  i5 := by kernel_rfl
  t9 := Tryd.underlying9
  a9 := Tryd.isAgg9
  z9 := Tryd.sizeOf9
  v9 := Tryd.zeroValue9
  i9 := by kernel_rfl
  t20 := Tryd.underlying20
  a20 := Tryd.isAgg20
  z20 := Tryd.sizeOf20
  v20 := Tryd.zeroValue20
  i20 := by kernel_rfl
  t22 := Tryd.underlying22
  a22 := Tryd.isAgg22
  z22 := Tryd.sizeOf22
  v22 := Tryd.zeroValue22
  i22 := by kernel_rfl
  t24 := Tryd.underlying81
  a24 := Tryd.isAgg81
  z24 := Tryd.sizeOf81
  v24 := Tryd.zeroValue81
  i24 := by kernel_rfl
  t34 := Tryd.underlying114
  a34 := Tryd.isAgg114
  z34 := Tryd.sizeOf114
  v34 := Tryd.zeroValue114
  i34 := by kernel_rfl
  c34 := by kernel_rfl
  t36 := Tryd.underlying87
  a36 := Tryd.isAgg87
  z36 := Tryd.sizeOf87
  v36 := Tryd.zeroValue87
  i36 := by kernel_rfl
  t37 := Tryd.underlying53
  a37 := Tryd.isAgg53
  z37 := Tryd.sizeOf53
  v37 := Tryd.zeroValue53
  i37 := by kernel_rfl
  t39 := Tryd.underlying116
  a39 := Tryd.isAgg116
  z39 := Tryd.sizeOf116
  v39 := Tryd.zeroValue116
  i39 := by kernel_rfl
  t44 := Tryd.underlying123
  a44 := Tryd.isAgg123
  z44 := Tryd.sizeOf123
  v44 := Tryd.zeroValue123
  i44 := by kernel_rfl
  t47 := Tryd.underlying92
  a47 := Tryd.isAgg92
  z47 := Tryd.sizeOf92
  v47 := Tryd.zeroValue92
  i47 := by kernel_rfl
  t48 := Tryd.underlying133
  a48 := Tryd.isAgg133
  z48 := Tryd.sizeOf133
  v48 := Tryd.zeroValue133
  i48 := by kernel_rfl
  t50 := Tryd.underlying135
  a50 := Tryd.isAgg135
  z50 := Tryd.sizeOf135
  v50 := Tryd.zeroValue135
  i50 := by kernel_rfl
  t52 := Tryd.underlying93
  a52 := Tryd.isAgg93
  z52 := Tryd.sizeOf93
  v52 := Tryd.zeroValue93
  i52 := by kernel_rfl
  t55 := Tryd.underlying96
  a55 := Tryd.isAgg96
  z55 := Tryd.sizeOf96
  v55 := Tryd.zeroValue96
  i55 := by kernel_rfl
  t59 := Tryd.underlying106
  a59 := Tryd.isAgg106
  z59 := Tryd.sizeOf106
  v59 := Tryd.zeroValue106
  i59 := by kernel_rfl
  t60 := Tryd.underlying107
  a60 := Tryd.isAgg107
  z60 := Tryd.sizeOf107
  v60 := Tryd.zeroValue107
  i60 := by kernel_rfl
  t61 := Tryd.underlying108
  a61 := Tryd.isAgg108
  z61 := Tryd.sizeOf108
  t65 := Tryd.underlying125
  a65 := Tryd.isAgg125
  z65 := Tryd.sizeOf125
  v65 := Tryd.zeroValue125
  i65 := by kernel_rfl
  t66 := Tryd.underlying126
  a66 := Tryd.isAgg126
  z66 := Tryd.sizeOf126
  v66 := Tryd.zeroValue126
  i66 := by kernel_rfl
  t67 := Tryd.underlying69
  a67 := Tryd.isAgg69
  z67 := Tryd.sizeOf69
  v67 := Tryd.zeroValue69
  i67 := by kernel_rfl
  g0 := by kernel_rfl
  m0 := by kernel_rfl
  g1 := by kernel_rfl
  m1 := by kernel_rfl
  g2 := by kernel_rfl
  m2 := by kernel_rfl
  g3 := by kernel_rfl
  m3 := by kernel_rfl
  g4 := by kernel_rfl
  m4 := by kernel_rfl
theorem caTe : CaT Tryd.prog 71 := CaT.of Tryd.func71 (by kernel_rfl) (by kernel_rfl)
theorem caIpu : CaT Tryd.prog 70 := CaT.of Tryd.func70 (by kernel_rfl) (by kernel_rfl)
def IsIf (v : Value) : Prop := ∃ t p, v = .iface t p
theorem toErr_c (w : World) (hg : Ge w) (fn s : List UInt8) (x y : Int) (hs : s.length ≤ 1000000) :
    Calls Tryd.prog 71 [.string (bs fn), .string (bs s), .int .i64 x, .int .i64 y, .iface 114 (.int .i64 2)].toArray w (RetA (fun v _ => IsIf v) w) := by
  obtain ⟨⟨t, p, hm⟩, _⟩ := hg
  refine (AnyPu.strconv_toError_syntax pu17 (bs fn) (bs s) x y _ w (by rw [bs_size]; omega) hm (.inr ⟨t, p, rfl⟩)).mono ?_
  rintro e w' ⟨N, rfl, _, _, hb⟩
  exact ⟨_, rfl, Ext.of_below hb, _, _, rfl⟩
def IsPu2 (a b : UInt8) (v : Value) : Prop :=
  (∃ y z : Nat, y < 16 ∧ z < 16 ∧ (∀ p, hexV a = some p → p = y) ∧ (∀ p, hexV b = some p → p = z) ∧ v = .tuple #[.int .u64 ((16 * y + z : Nat) : Int), .nilIface]) ∨
  ((hexV a = none ∨ hexV b = none) ∧ IsErrU v)
theorem pu16_c (w : World) (hg : Ge w) (a b : UInt8) : Calls Tryd.prog 56 [.string (bs [a, b]), .int .i64 16, .int .i64 8].toArray w (RetA (fun v _ => IsPu2 a b v) w) := by
  refine calls (n := 26) Tryd.func56 rfl Tryd.ntmps56 rfl ?_
  refine CW.sub (H' := SH w [] []) ?_ (Sub.refl _) (fun x hx => SH.start' _ _ hx)
  refine CW.seq (CW.region ?_)
  refine RW.assign rfl rfl ?_
  refine RW.assign rfl rfl ?_
  refine RW.nil (EX.seq (CW.seq ?_))
  -- mq: region
  refine CW.region ?_
  refine RW.move rfl rfl ?_
  refine RW.move rfl rfl ?_
  refine RW.move rfl rfl ?_
  -- mq: op 3: ('Op.call', ('Call.mk', ('Callee.value', ('Operand.func', '70')), ('arr', ('Operand.tmp', '11'), ('Operand.tmp', '12'), ('Operand.tmp', '13')), ('arr', '9', '3', '3'))) -> slot 14 ("number.go:105")
  refine RW.callA (R := fun _ v _ => IsPu a b v) rfl caIpu rfl (fun w' _ => inPu_c w' a b) (fun w1 w2 v hw1 he12 hw2 hlt hv => ?_)
  have hx12 : Ext [] w w2 := hw1.ext.trans0 he12
  rcases hv with ⟨y, z, hy, hz, hpa, hpb, rfl⟩ | ⟨hno, rfl⟩
  · skip
    refine RW.move rfl rfl ?_
    refine RW.extract rfl rfl rfl ?_
    refine RW.extract rfl rfl rfl ?_
    refine RW.assign rfl rfl ?_
    refine RW.assign rfl rfl ?_
    refine RW.nil (EX.seq (CW.seq (CW.seq ?_)))
    -- mq: region
    refine CW.region ?_
    refine RW.move rfl rfl ?_
    refine RW.neqNilAt (by kernel_rfl) rfl rfl ?_
    refine RW.nil (EX.seq ?_)
    -- mq: cond
    refine CW.condF rfl (rfl) ?_
    refine CW.skip (EX.seq (CW.seq (CW.region ?_)))
    refine RW.move rfl rfl ?_
    refine RW.assign rfl rfl ?_
    refine RW.assign rfl rfl ?_
    refine RW.nil (EX.seq (CW.ret ?_))
    refine EX.fin2 Tryd.results56 rfl rfl (fun wz hw => ?_)
    -- mq: done
    exact ⟨_, rfl, hx12.trans0 hw.ext, .inl ⟨y, z, hy, hz, hpa, hpb, rfl⟩⟩
  · skip
    refine RW.move rfl rfl ?_
    refine RW.extract rfl rfl rfl ?_
    refine RW.extract rfl rfl rfl ?_
    refine RW.assign rfl rfl ?_
    refine RW.assign rfl rfl ?_
    refine RW.nil (EX.seq (CW.seq (CW.seq ?_)))
    -- mq: region
    refine CW.region ?_
    refine RW.move rfl rfl ?_
    refine RW.neqErr (by kernel_rfl) rfl rfl ?_
    refine RW.nil (EX.seq ?_)
    -- mq: cond
    refine CW.condT rfl (rfl) ?_
    refine CW.seq (CW.region ?_)
    refine RW.move rfl rfl ?_
    refine RW.move rfl rfl ?_
    refine RW.move rfl rfl ?_
    refine RW.move rfl rfl ?_
    refine RW.move rfl rfl ?_
    -- mq: op 5: ('Op.call', ('Call.mk', ('Callee.value', ('Operand.func', '71')), ('arr', ('Operand.const', ('Value.string', ('ByteArray.mk', ('arr', '80', '97', '114', '115', '101', '85', '105', '110', '116')))), ('Operand.tmp', '20'), ('Operand.tmp', '21'), ('Operand.tmp', '22'), ('Operand.tmp', '23')), ('arr', '9', '9', '3', '3', '81'))) -> slot 24 ("number.go:107")
    refine RW.callA (R := fun _ v _ => IsIf v) rfl caTe rfl (fun w' hw' => toErr_c w' (hg.ext (hx12.trans0 hw'.ext)) [80, 97, 114, 115, 101, 85, 105, 110, 116] [a, b] 16 8 (by show 2 ≤ 1000000; decide)) (fun w3 w4 v hw3 he34 hw4 hlt4 hv => ?_)
    obtain ⟨t, p, rfl⟩ := hv
    have hx34 : Ext [] w w4 := (hx12.trans0 hw3.ext).trans0 he34
    refine RW.assign rfl rfl ?_
    refine RW.assign rfl rfl ?_
    refine RW.nil (EX.seq (CW.ret (EX.seqR ?_)))
    refine EX.fin2 Tryd.results56 rfl rfl (fun wz hw => ?_)
    -- mq: done
    exact ⟨_, rfl, hx34.trans0 hw.ext, .inr ⟨hno, _, _, _, rfl⟩⟩
def PhR (x : List UInt8) (bad : Bool) (i : Int × Bool) : Prop := (∀ k : Nat, k < 5 → phaseW k = x → i = ((k : Int), bad)) ∧ ((∀ k : Nat, k < 5 → phaseW k ≠ x) → i.2 = true)
theorem phaseR_c (w : World) (g : Nat) (s : WS) (bad : Bool) (F : Nat → Prop) (x : List UInt8) (L : List (List UInt8)) (hr : RdW w F s (x :: L)) (hF : ¬ F g) (h : (rdr g s bad).pred w) :
    Calls Tryd.prog 36 [.pointer (some ⟨g, 0, none⟩)].toArray w (RetU (fun i : Int × Bool => .int .i64 i.1) (rdr g s bad) (fun i => rdr g s.adv i.2) (PhR x bad) w) := by
  refine calls (n := 27) Tryd.func36 rfl Tryd.ntmps36 rfl ?_
  refine CW.sub (H' := SH w (rdr g s bad).foot [rdr g s bad]) ?_ (Sub.refl _) (fun x hx => SH.startOf' hx h (by simp [blk]))
  refine CW.seq (CW.region ?_)
  refine RW.assign rfl rfl ?_
  refine RW.nil (EX.seq (CW.seq ?_))
  -- mq: region
  refine CW.region ?_
  refine RW.move rfl rfl ?_
  refine RW.nilChk rfl rfl ?_
  refine RW.fieldP fl68x0 rfl rfl ?_
  refine RW.callUI (fun _ => [rdr g s.adv bad]) rfl ca34 rfl (fun _ => Upd.head) (fun w' hw' => next_c w' g s bad F x L (hFext hr hF hw'.ext) hF (hw'.has Has.head)) (fun _ _ => ?_)
  refine RW.assign rfl rfl ?_
  refine RW.nil (EX.seq (CW.seq (CW.seq (CW.region ?_))))
  refine RW.move rfl rfl ?_
  refine RW.nil (EX.seq (CW.block ?_))
  -- mq: loop
  refine CW.loop (ι := Nat) (fun k => [(0, .pointer (some ⟨g, 0, none⟩)), (3, .string (bs x)), (11, .int .i64 (k : Int))]) (fun _ => SH w (rdr g s bad).foot [rdr g s.adv bad]) (fun k => k ≤ 5 ∧ ∀ j : Nat, j < k → phaseW j ≠ x) (fun k => 5 - k) ?_ ?_
  · exact fun w' hw' => ⟨0, ⟨Nat.zero_le _, fun j hj => absurd hj (Nat.not_lt_zero _)⟩, (by repeat (first | exact Sub.nil | refine Sub.cons (by rfl) ?_)), hw'⟩
  · rintro k ⟨hk, hno⟩
    refine CW.seq (CW.region ?_)
    refine RW.lss rfl rfl rfl ?_
    refine RW.nil (EX.seq (CW.seq ?_))
    -- mq: cond
    first | refine CW.condD rfl (fun hlt => ?_) (fun hlt => ?_) | refine CW.cond rfl (fun hlt => ?_) (fun hlt => ?_)
    · skip
      refine CW.skip (EX.seq (CW.seq (CW.block (CW.seq (CW.region ?_)))))
      refine RW.move rfl rfl ?_
      refine RW.assign rfl rfl ?_
      refine RW.nil (EX.seq (CW.seq ?_))
      -- mq: region
      refine CW.region ?_
      refine RW.move rfl rfl ?_
      refine RW.call rfl ca11 rfl (fun w' _ => phase_c w' (k : Int)) ?_
      refine RW.move rfl rfl ?_
      refine RW.extract rfl rfl rfl ?_
      refine RW.extract rfl rfl rfl ?_
      refine RW.assign rfl rfl ?_
      refine RW.assign rfl rfl ?_
      refine RW.nil (EX.seq (CW.seq (CW.region ?_)))
      refine RW.move rfl rfl ?_
      refine RW.move rfl rfl ?_
      refine RW.eqlS rfl rfl rfl ?_
      refine RW.nil (EX.seq ?_)
      -- mq: cond
      first | refine CW.condD rfl (fun heq => ?_) (fun heq => ?_) | refine CW.cond rfl (fun heq => ?_) (fun heq => ?_)
      · skip
        refine CW.seq (CW.region ?_)
        refine RW.move rfl rfl ?_
        refine RW.assign rfl rfl ?_
        refine RW.nil (EX.seq (CW.ret (EX.bkR (EX.seqR (EX.lpR (EX.bkR (EX.seqR ?_)))))))
        refine EX.fin1 Tryd.results36 rfl (fun wz hw => ?_)
        -- mq: done
        refine RetU.of ((k : Int), bad) ⟨fun m hm he => ?_, fun h => absurd heq (h k (by omega))⟩ hw
        have : (m : Int) = (k : Int) := phaseW_inj (by omega) (by omega) (by rw [he, heq])
        rw [this]
      · skip
        refine CW.skip (EX.bkN (EX.seq (CW.region ?_)))
        refine RW.add rfl rfl rfl (wrap64 (by omega) (by omega)) ?_
        refine RW.move rfl rfl ?_
        refine RW.nil ?_
        -- mq: loopend
        refine EX.lpN (k + 1) ⟨by omega, fun j hj => ?_⟩ (by omega) (by repeat (first | exact Sub.nil | refine Sub.cons (by rfl) ?_)) (fun w' hw' => hw')
        rcases Nat.lt_succ_iff_lt_or_eq.1 hj with h | rfl
        · exact hno j h
        · exact heq
    · skip
      obtain rfl : k = 5 := by omega
      refine CW.exit (EX.seqE (EX.lpE (EX.bkE (EX.seq (CW.seq (CW.region ?_))))))
      refine RW.move rfl rfl ?_
      refine RW.nilChk rfl rfl ?_
      refine RW.fieldB fl68x1 rfl rfl ?_
      refine RW.store1 sc4 rfl rfl (by first | exact Upd.head | exact Upd.tail Upd.head | exact Upd.tail (Upd.tail Upd.head) | exact Upd.tail (Upd.tail (Upd.tail Upd.head)) | exact Upd.tail (Upd.tail (Upd.tail (Upd.tail Upd.head))) | exact Upd.tail (Upd.tail (Upd.tail (Upd.tail (Upd.tail Upd.head)))) | exact Upd.tail (Upd.tail (Upd.tail (Upd.tail (Upd.tail (Upd.tail Upd.head)))))) rfl (by first | exact Nat.le_of_ble_eq_true rfl | simp) ?_
      refine RW.nil (EX.seq (CW.seq (CW.region ?_)))
      refine RW.assign rfl rfl ?_
      refine RW.nil (EX.seq (CW.ret ?_))
      refine EX.fin1 Tryd.results36 rfl (fun wz hw => ?_)
      -- mq: done
      exact RetU.of (0, true) ⟨fun m hm he => absurd he (hno m hm), fun _ => rfl⟩ hw
end Go.Proofs.YtnkdabjahmjdoaaDoor.Mq

namespace Go.Proofs.YtnkdabjahmjdoaaDoor.Mq
open Go Go.RowKit Go.Proofs

def TextR (x : List UInt8) (bad : Bool) (i : List UInt8 × Bool) : Prop := (∀ d, hexT d = x → i = (d, bad)) ∧ ((∀ d, hexT d ≠ x) → i.2 = true) ∧ i.1.length ≤ x.length
theorem u8_of_int (x : Int) : IntKind.u8.wrap x = ((UInt8.ofNat (IntKind.u8.wrap x).toNat).toNat : Int) := by
  rw [UInt8.toNat_ofNat', IntKind.wrap_u8]; omega
theorem hexP_get {d : List UInt8} {j : Nat} {c : UInt8} (h : d[j]? = some c) : hexP d = hexP (d.take j) ++ hexDig (c.toNat / 16) :: hexDig (c.toNat % 16) :: hexP (d.drop (j + 1)) := by
  have hlt := (List.getElem?_eq_some_iff.1 h).1
  conv => lhs; rw [← List.take_append_drop j d, List.drop_eq_getElem_cons hlt, (List.getElem?_eq_some_iff.1 h).2]
  simp [hexP, hex2]
theorem text_step {d r : List UInt8} {j : Nat} {a b : UInt8} (hr : r = hexP d) (ha : r[2 * j]? = some a) (hb : r[2 * j + 1]? = some b) :
    ∃ c, d[j]? = some c ∧ hexV a = some (c.toNat / 16) ∧ hexV b = some (c.toNat % 16) := by
  have hl := hexP_len d
  have hlt := (List.getElem?_eq_some_iff.1 ha).1
  rw [hr] at hlt
  obtain ⟨c, hc⟩ : ∃ c, d[j]? = some c := ⟨d[j]'(by omega), List.getElem?_eq_getElem _⟩
  have hc8 := UInt8.toNat_lt c
  have hp : (hexP (d.take j)).length = 2 * j := by rw [hexP_len, List.length_take]; omega
  have e := hexP_get hc
  rw [hr, e, List.getElem?_append_right (by omega), hp, Nat.sub_self] at ha
  rw [hr, e, List.getElem?_append_right (by omega), hp, show 2 * j + 1 - 2 * j = 1 by omega] at hb
  cases ha
  cases hb
  exact ⟨c, hc, hexV_dig _ (by omega), hexV_dig _ (by omega)⟩
theorem textR_c (w : World) (g : Nat) (hG : GR w g) (s : WS) (bad : Bool) (F : Nat → Prop) (x : List UInt8) (L : List (List UInt8)) (hr : RdW w F s (x :: L)) (hF : ¬ F g) (hxl : x.length ≤ 1000000) (h : (rdr g s bad).pred w) :
    Calls Tryd.prog 39 [.pointer (some ⟨g, 0, none⟩)].toArray w (RetU (fun i : List UInt8 × Bool => .string (bs i.1)) (rdr g s bad) (fun i => rdr g s.adv i.2) (TextR x bad) w) := by
  refine calls (n := 65) Tryd.func39 rfl Tryd.ntmps39 rfl ?_
  refine CW.sub (H' := SH w (rdr g s bad).foot [rdr g s bad]) ?_ (Sub.refl _) (fun x hx => SH.startOf' hx h (by simp [blk]))
  refine CW.seq (CW.region ?_)
  refine RW.assign rfl rfl ?_
  refine RW.nil (EX.seq (CW.seq ?_))
  -- mq: region
  refine CW.region ?_
  refine RW.move rfl rfl ?_
  refine RW.nilChk rfl rfl ?_
  refine RW.fieldP fl68x0 rfl rfl ?_
  refine RW.callUI (fun _ => [rdr g s.adv bad]) rfl ca34 rfl (fun _ => Upd.head) (fun w' hw' => next_c w' g s bad F x L (hFext hr hF hw'.ext) hF (hw'.has Has.head)) (fun _ _ => ?_)
  refine RW.assign rfl rfl ?_
  refine RW.nil (EX.seq (CW.seq ?_))
  -- mq: region
  refine CW.region ?_
  refine RW.move rfl rfl ?_
  refine RW.call rfl ca58 rfl (fun w' _ => cutPrefix_c w' x [61] (by omega) (by decide)) ?_
  refine RW.move rfl rfl ?_
  refine RW.extract rfl rfl rfl ?_
  refine RW.extract rfl rfl rfl ?_
  refine RW.assign rfl rfl ?_
  refine RW.assign rfl rfl ?_
  refine RW.nil (EX.seq (CW.seq (CW.region ?_)))
  refine RW.assign rfl rfl ?_
  refine RW.nil (EX.seq (CW.seq (CW.seq ?_)))
  -- mq: region
  obtain ⟨r, ok0, hrl, hr0, hok0, hspec⟩ : ∃ r ok0, r.length ≤ x.length ∧ r = (if x.take ([61] : List UInt8).length = [61] then x.drop ([61] : List UInt8).length else x) ∧ ok0 = decide (x.take ([61] : List UInt8).length = [61]) ∧ (∀ d, hexT d = x → ok0 = true ∧ r = hexP d) := by
    refine ⟨_, _, ?_, rfl, rfl, fun d hd => ?_⟩
    · split
      · rw [List.length_drop]; omega
      · omega
    · subst hd
      exact ⟨by rfl, by rfl⟩
  rw [← hr0, ← hok0]
  refine CW.ownNil 5 1 ?_
  refine CW.region ?_
  refine RW.assign rfl rfl ?_
  refine RW.nil (EX.seq (CW.block ?_))
  -- mq: loop
  refine CW.loop (ι := Nat × Bool × Value × List UInt8) (fun t => [(0, .pointer (some ⟨g, 0, none⟩)), (3, .string (bs x)), (4, .string (bs r)), (5, .bool t.2.1), (6, t.2.2.1), (7, .int .i64 ((2 * t.1 : Nat) : Int))]) (fun t => SH w (rdr g s bad).foot [own 5 1 t.2.2.1 t.2.2.2.length (EU8.all t.2.2.2), rdr g s.adv bad]) (fun t => 2 * t.1 ≤ r.length ∧ t.2.2.2.length = t.1 ∧ (∀ d, hexT d = x → t.2.1 = true ∧ t.2.2.2 = d.take t.1)) (fun t => r.length - 2 * t.1) ?_ ?_
  · exact fun w' hw' => ⟨(0, ok0, _, []), ⟨Nat.zero_le _, rfl, fun d hd => ⟨(hspec d hd).1, by simp⟩⟩, (by repeat (first | exact Sub.nil | refine Sub.cons (by rfl) ?_)), hw'⟩
  · rintro ⟨j, ok, v, O⟩ ⟨hj, hO, hsp⟩
    dsimp only at hj hO hsp ⊢
    have hfin : ∀ y : Bool, y = (bad || !ok || decide (hexT O ≠ x)) → (2 * j + 1 < r.length → ok = false) → TextR x bad (O, y) := by
      intro y hy hend
      refine ⟨fun d hd => ?_, fun hno => ?_, by dsimp only; omega⟩
      · obtain ⟨h1, h2⟩ := hsp d hd
        obtain ⟨_, h3⟩ := hspec d hd
        have hl := hexP_len d
        have hle : ¬ 2 * j + 1 < r.length := fun h => by rw [h1] at hend; cases hend h
        have e : O = d := by rw [h2]; exact List.take_of_length_le (by rw [h3] at hle; omega)
        rw [hy, h1, e, decide_eq_false (fun h => h hd)]
        cases bad <;> rfl
      · show y = true
        rw [hy, decide_eq_true (hno O)]
        cases bad <;> cases ok <;> rfl
    refine CW.seq (CW.seq (CW.region ?_))
    refine RW.move rfl rfl ?_
    refine RW.move rfl rfl ?_
    -- mq: guard slot 20
    cases ok with
    | true =>
      refine RW.guardT rfl rfl rfl ?_
      refine RW.move rfl rfl ?_
      refine RW.guardT rfl rfl rfl ?_
      refine RW.add rfl rfl rfl (wrap64 (by omega) (by omega)) ?_
      refine RW.guardT rfl rfl rfl ?_
      refine RW.move rfl rfl ?_
      refine RW.guardT rfl rfl rfl ?_
      refine RW.lenS Tryd.underlying9 rfl rfl ?_
      refine RW.guardT rfl rfl rfl ?_
      refine RW.lss rfl rfl rfl ?_
      refine RW.pickB rfl rfl rfl rfl ?_
      refine RW.nil (EX.seq ?_)
      -- mq: cond
      first | refine CW.condD rfl (fun hlt => ?_) (fun hlt => ?_) | refine CW.cond rfl (fun hlt => ?_) (fun hlt => ?_)
      · skip
        obtain ⟨a, ha⟩ : ∃ a, r[2 * j]? = some a := ⟨r[2 * j]'(by omega), List.getElem?_eq_getElem _⟩
        obtain ⟨b, hb⟩ : ∃ b, r[2 * j + 1]? = some b := ⟨r[2 * j + 1]'(by omega), List.getElem?_eq_getElem _⟩
        have hsl : (r.take (2 * j + 2)).drop (2 * j) = [a, b] := by
          rw [List.drop_take, show 2 * j + 2 - 2 * j = 2 by omega, List.drop_eq_getElem_cons (by omega), (List.getElem?_eq_some_iff.1 ha).2, List.drop_eq_getElem_cons (by omega), (List.getElem?_eq_some_iff.1 hb).2]
          rfl
        refine CW.skip (EX.seq (CW.seq (CW.block (CW.seq ?_))))
        -- mq: region
        refine CW.region ?_
        refine RW.move rfl rfl ?_
        refine RW.move rfl rfl ?_
        refine RW.move rfl rfl ?_
        refine RW.add rfl rfl rfl (wrap64 (by omega) (by omega)) ?_
        refine RW.sliceStrLH (2 * j) (2 * j + 2) Tryd.underlying9 rfl rfl rfl rfl (by first | rfl | omega) (by first | rfl | omega) (by omega) (by first | omega | (simp; done) | (simp; omega)) ?_
        -- mq: op 5: ('Op.call', ('Call.mk', ('Callee.value', ('Operand.func', '56')), ('arr', ('Operand.tmp', '34'), ('Operand.const', ('Value.int', 'IntKind.i64', '16')), ('Operand.const', ('Value.int', 'IntKind.i64', '8'))), ('arr', '9', '3', '3'))) -> slot 35 ("dump.go:131")
        rw [hsl]
        refine RW.callA (R := fun _ v _ => IsPu2 a b v) rfl caPu rfl (fun w' hw' => pu16_c w' (hG.gl (by simpa [blk] using hw'.ext)).2 a b) (fun w1 w2 u hw1 he12 hw2 hlt2 hu => ?_)
        have hx12 := hw1.ext.trans0 he12
        have hcv := hw1.cov
        rcases hu with ⟨y, z, hy, hz, hpa, hpb, rfl⟩ | ⟨hno, q, t, p, rfl⟩
        · skip
          refine RW.move rfl rfl ?_
          refine RW.extract rfl rfl rfl ?_
          refine RW.extract rfl rfl rfl ?_
          refine RW.assign rfl rfl ?_
          refine RW.assign rfl rfl ?_
          refine RW.nil (EX.seq (CW.seq ?_))
          -- mq: region
          have hcz : (UInt8.ofNat (16 * y + z)).toNat = 16 * y + z := by rw [UInt8.toNat_ofNat']; omega
          refine CW.region ?_
          refine RW.move rfl rfl ?_
          refine RW.eqlNil (by kernel_rfl) rfl rfl ?_
          refine RW.assign rfl rfl ?_
          refine RW.nil (EX.seq ?_)
          -- mq: region
          refine CW.region ?_
          refine RW.move rfl rfl ?_
          refine RW.move rfl rfl ?_
          refine RW.convI (r := (((UInt8.ofNat (16 * y + z)).toNat : Nat) : Int)) rfl rfl Tryd.underlying22 Tryd.underlying5 (by rw [hcz, wrapN8 (by omega) (by omega)]) ?_
          refine RW.buildSlc sl53 rfl rfl rfl rfl (fun g43 hg43 hf43 => ?_)
          refine RW.append1 sl53 rfl rfl rfl (by first | exact Rem.head | exact Rem.tail Rem.head | exact Rem.tail (Rem.tail Rem.head) | exact Rem.tail (Rem.tail (Rem.tail Rem.head)) | exact Rem.tail (Rem.tail (Rem.tail (Rem.tail Rem.head))) | exact Rem.tail (Rem.tail (Rem.tail (Rem.tail (Rem.tail Rem.head)))) | exact Rem.tail (Rem.tail (Rem.tail (Rem.tail (Rem.tail (Rem.tail Rem.head)))))) (fun _ => by first | exact Upd.head | exact Upd.tail Upd.head | exact Upd.tail (Upd.tail Upd.head) | exact Upd.tail (Upd.tail (Upd.tail Upd.head)) | exact Upd.tail (Upd.tail (Upd.tail (Upd.tail Upd.head))) | exact Upd.tail (Upd.tail (Upd.tail (Upd.tail (Upd.tail Upd.head)))) | exact Upd.tail (Upd.tail (Upd.tail (Upd.tail (Upd.tail (Upd.tail Upd.head)))))) rfl (by repeat (first | exact Ones.nil | exact Enc.ones _ _ | refine Ones.cons rfl ?_)) (by simp only [maxLen]; omega) (by omega) (fun v44 hv44 => ?_)
          refine RW.assign rfl rfl ?_
          refine RW.nil (EX.bkN (EX.seq (CW.region ?_)))
          refine RW.move rfl rfl ?_
          refine RW.add rfl rfl rfl (wrap64 (by omega) (by omega)) ?_
          refine RW.assign rfl rfl ?_
          refine RW.nil ?_
          -- mq: loopend
          refine EX.lpN (j + 1, true, v44, O ++ [UInt8.ofNat (16 * y + z)]) ⟨by dsimp only; omega, by simp; omega, fun d hd => ?_⟩ (by dsimp only; omega) (by repeat (first | exact Sub.nil | refine Sub.cons (by rfl) ?_)) (fun w' hw' => ?_)
          · obtain ⟨_, h2⟩ := hsp d hd
            obtain ⟨c, hc, h3, h4⟩ := text_step (hspec d hd).2 ha hb
            refine ⟨rfl, ?_⟩
            have e1 := hpa _ h3
            have e2 := hpb _ h4
            rw [h2, List.take_add_one, hc, ← e1, ← e2, show 16 * (c.toNat / 16) + c.toNat % 16 = c.toNat by omega]
            simp
          · dsimp only
            rw [Enc.all_snoc EU8, List.length_append]
            exact hw'.unbase hx12 hcv
        · skip
          refine RW.move rfl rfl ?_
          refine RW.extract rfl rfl rfl ?_
          refine RW.extract rfl rfl rfl ?_
          refine RW.assign rfl rfl ?_
          refine RW.assign rfl rfl ?_
          refine RW.nil (EX.seq (CW.seq ?_))
          -- mq: region
          refine CW.region ?_
          refine RW.move rfl rfl ?_
          refine RW.eqlErr (by kernel_rfl) rfl rfl ?_
          refine RW.assign rfl rfl ?_
          refine RW.nil (EX.seq ?_)
          -- mq: region
          refine CW.region ?_
          refine RW.move rfl rfl ?_
          refine RW.move rfl rfl ?_
          refine RW.convI (r := (((UInt8.ofNat (IntKind.u8.wrap q).toNat).toNat : Nat) : Int)) rfl rfl Tryd.underlying22 Tryd.underlying5 (u8_of_int q) ?_
          refine RW.buildSlc sl53 rfl rfl rfl rfl (fun g43 hg43 hf43 => ?_)
          refine RW.append1 sl53 rfl rfl rfl (by first | exact Rem.head | exact Rem.tail Rem.head | exact Rem.tail (Rem.tail Rem.head) | exact Rem.tail (Rem.tail (Rem.tail Rem.head)) | exact Rem.tail (Rem.tail (Rem.tail (Rem.tail Rem.head))) | exact Rem.tail (Rem.tail (Rem.tail (Rem.tail (Rem.tail Rem.head)))) | exact Rem.tail (Rem.tail (Rem.tail (Rem.tail (Rem.tail (Rem.tail Rem.head)))))) (fun _ => by first | exact Upd.head | exact Upd.tail Upd.head | exact Upd.tail (Upd.tail Upd.head) | exact Upd.tail (Upd.tail (Upd.tail Upd.head)) | exact Upd.tail (Upd.tail (Upd.tail (Upd.tail Upd.head))) | exact Upd.tail (Upd.tail (Upd.tail (Upd.tail (Upd.tail Upd.head)))) | exact Upd.tail (Upd.tail (Upd.tail (Upd.tail (Upd.tail (Upd.tail Upd.head)))))) rfl (by repeat (first | exact Ones.nil | exact Enc.ones _ _ | refine Ones.cons rfl ?_)) (by simp only [maxLen]; omega) (by omega) (fun v44 hv44 => ?_)
          refine RW.assign rfl rfl ?_
          refine RW.nil (EX.bkN (EX.seq (CW.region ?_)))
          refine RW.move rfl rfl ?_
          refine RW.add rfl rfl rfl (wrap64 (by omega) (by omega)) ?_
          refine RW.assign rfl rfl ?_
          refine RW.nil ?_
          -- mq: loopend
          refine EX.lpN (j + 1, false, v44, O ++ [UInt8.ofNat (IntKind.u8.wrap q).toNat]) ⟨by dsimp only; omega, by simp; omega, fun d hd => ?_⟩ (by dsimp only; omega) (by repeat (first | exact Sub.nil | refine Sub.cons (by rfl) ?_)) (fun w' hw' => ?_)
          · obtain ⟨c, hc, h3, h4⟩ := text_step (hspec d hd).2 ha hb
            rw [h3, h4] at hno
            rcases hno with h | h <;> cases h
          · dsimp only
            rw [Enc.all_snoc EU8, List.length_append]
            exact hw'.unbase hx12 hcv
      · skip
        refine CW.formOwn (v := v) Has.head (fun A4 c4 hv4 hcap4 hmax4 hlen4 hg4 => ?_)
        subst hv4
        cases bad with
        | true =>
          refine CW.exit (EX.seqE (EX.lpE (EX.bkE (EX.seq (CW.seq ?_)))))
          -- mq: region
          refine CW.region ?_
          refine RW.move rfl rfl ?_
          refine RW.move rfl rfl ?_
          refine RW.nilChk rfl rfl ?_
          refine RW.fieldB fl68x1 rfl rfl ?_
          refine RW.loadB1 sc4 rfl rfl (by first | exact Has.head | exact Has.tail Has.head | exact Has.tail (Has.tail Has.head) | exact Has.tail (Has.tail (Has.tail Has.head)) | exact Has.tail (Has.tail (Has.tail (Has.tail Has.head))) | exact Has.tail (Has.tail (Has.tail (Has.tail (Has.tail Has.head)))) | exact Has.tail (Has.tail (Has.tail (Has.tail (Has.tail (Has.tail Has.head)))))) rfl ?_
          refine RW.move rfl rfl ?_
          refine RW.guardF rfl rfl rfl rfl ?_
          refine RW.guardF rfl rfl rfl rfl ?_
          refine RW.pickB rfl rfl rfl rfl ?_
          refine RW.move rfl rfl ?_
          refine RW.guardF rfl rfl rfl rfl ?_
          refine RW.guardF rfl rfl rfl rfl ?_
          refine RW.guardF rfl rfl rfl rfl ?_
          refine RW.guardF rfl rfl rfl rfl ?_
          refine RW.guardF rfl rfl rfl rfl ?_
          refine RW.pickB rfl rfl rfl rfl ?_
          refine RW.nilChk rfl rfl ?_
          refine RW.fieldB fl68x1 rfl rfl ?_
          refine RW.store1 sc4 rfl rfl (by first | exact Upd.head | exact Upd.tail Upd.head | exact Upd.tail (Upd.tail Upd.head) | exact Upd.tail (Upd.tail (Upd.tail Upd.head)) | exact Upd.tail (Upd.tail (Upd.tail (Upd.tail Upd.head))) | exact Upd.tail (Upd.tail (Upd.tail (Upd.tail (Upd.tail Upd.head)))) | exact Upd.tail (Upd.tail (Upd.tail (Upd.tail (Upd.tail (Upd.tail Upd.head)))))) rfl (by first | exact Nat.le_of_ble_eq_true rfl | simp) ?_
          refine RW.nil (EX.seq (CW.seq ?_))
          -- mq: region
          refine CW.region ?_
          refine RW.move rfl rfl ?_
          -- mq: at
          refine RW.bytesStr (s := O) (F := fun k => (Value.slice A4 O.length c4).ownBlock = some k) Tryd.underlying53 Tryd.underlying5 Tryd.underlying9 rfl rfl (fun w' hw' => ?_) ?_
          · obtain ⟨A6, c6, he6, hrd6⟩ := Rd.of_own (E := EU8) (hw'.has Has.head) rfl
            cases he6
            exact hrd6
          refine RW.assign rfl rfl ?_
          refine RW.nil (EX.seq (CW.ret ?_))
          refine EX.fin1 Tryd.results39 rfl (fun wz hw => ?_)
          -- mq: done
          exact RetU.of (O, true) (hfin _ (by rfl) (fun h => absurd h (by omega))) (hw.rem Rem.head)
        | false =>
          refine CW.exit (EX.seqE (EX.lpE (EX.bkE (EX.seq (CW.seq ?_)))))
          -- mq: region
          refine CW.region ?_
          refine RW.move rfl rfl ?_
          refine RW.move rfl rfl ?_
          refine RW.nilChk rfl rfl ?_
          refine RW.fieldB fl68x1 rfl rfl ?_
          refine RW.loadB1 sc4 rfl rfl (by first | exact Has.head | exact Has.tail Has.head | exact Has.tail (Has.tail Has.head) | exact Has.tail (Has.tail (Has.tail Has.head)) | exact Has.tail (Has.tail (Has.tail (Has.tail Has.head))) | exact Has.tail (Has.tail (Has.tail (Has.tail (Has.tail Has.head)))) | exact Has.tail (Has.tail (Has.tail (Has.tail (Has.tail (Has.tail Has.head)))))) rfl ?_
          refine RW.move rfl rfl ?_
          refine RW.guardT rfl rfl rfl ?_
          refine RW.move rfl rfl ?_
          refine RW.guardT rfl rfl rfl ?_
          refine RW.not_ rfl rfl ?_
          refine RW.pickC rfl rfl rfl rfl ?_
          refine RW.move rfl rfl ?_
          refine RW.guardT rfl rfl rfl ?_
          refine RW.move rfl rfl ?_
          refine RW.guardT rfl rfl rfl ?_
          -- mq: op 11: ('Op.convert', '53', '9', ('Operand.tmp', '55')) -> slot 56 ("dump.go:135")
          refine RW.bytesStr (s := O) (F := fun k => (Value.slice A4 O.length c4).ownBlock = some k) Tryd.underlying53 Tryd.underlying5 Tryd.underlying9 rfl rfl (fun w' hw' => ?_) ?_
          · obtain ⟨A6, c6, he6, hrd6⟩ := Rd.of_own (E := EU8) (hw'.has Has.head) rfl
            cases he6
            exact hrd6
          refine RW.guardT rfl rfl rfl ?_
          refine RW.call rfl ca30 rfl (fun w' _ => data_c w' O (by omega)) ?_
          refine RW.guardT rfl rfl rfl ?_
          refine RW.move rfl rfl ?_
          refine RW.guardT rfl rfl rfl ?_
          refine RW.neqS rfl rfl rfl ?_
          refine RW.pickC rfl rfl rfl rfl ?_
          refine RW.nilChk rfl rfl ?_
          refine RW.fieldB fl68x1 rfl rfl ?_
          refine RW.store1 sc4 rfl rfl (by first | exact Upd.head | exact Upd.tail Upd.head | exact Upd.tail (Upd.tail Upd.head) | exact Upd.tail (Upd.tail (Upd.tail Upd.head)) | exact Upd.tail (Upd.tail (Upd.tail (Upd.tail Upd.head))) | exact Upd.tail (Upd.tail (Upd.tail (Upd.tail (Upd.tail Upd.head)))) | exact Upd.tail (Upd.tail (Upd.tail (Upd.tail (Upd.tail (Upd.tail Upd.head)))))) rfl (by first | exact Nat.le_of_ble_eq_true rfl | simp) ?_
          refine RW.nil (EX.seq (CW.seq ?_))
          -- mq: region
          refine CW.region ?_
          refine RW.move rfl rfl ?_
          -- mq: at
          refine RW.bytesStr (s := O) (F := fun k => (Value.slice A4 O.length c4).ownBlock = some k) Tryd.underlying53 Tryd.underlying5 Tryd.underlying9 rfl rfl (fun w' hw' => ?_) ?_
          · obtain ⟨A6, c6, he6, hrd6⟩ := Rd.of_own (E := EU8) (hw'.has Has.head) rfl
            cases he6
            exact hrd6
          refine RW.assign rfl rfl ?_
          refine RW.nil (EX.seq (CW.ret ?_))
          refine EX.fin1 Tryd.results39 rfl (fun wz hw => ?_)
          -- mq: done
          exact RetU.of (O, decide (hexT O ≠ x)) (hfin _ (by rfl) (fun h => absurd h (by omega))) (hw.rem Rem.head)
    | false =>
      refine RW.guardF rfl rfl rfl rfl ?_
      refine RW.guardF rfl rfl rfl rfl ?_
      refine RW.guardF rfl rfl rfl rfl ?_
      refine RW.guardF rfl rfl rfl rfl ?_
      refine RW.guardF rfl rfl rfl rfl ?_
      refine RW.pickC rfl rfl rfl rfl ?_
      refine RW.nil (EX.seq ?_)
      -- mq: cond
      refine CW.condF rfl (rfl) ?_
      refine CW.formOwn (v := v) Has.head (fun A4 c4 hv4 hcap4 hmax4 hlen4 hg4 => ?_)
      subst hv4
      cases bad with
      | true =>
        refine CW.exit (EX.seqE (EX.lpE (EX.bkE (EX.seq (CW.seq ?_)))))
        -- mq: region
        refine CW.region ?_
        refine RW.move rfl rfl ?_
        refine RW.move rfl rfl ?_
        refine RW.nilChk rfl rfl ?_
        refine RW.fieldB fl68x1 rfl rfl ?_
        refine RW.loadB1 sc4 rfl rfl (by first | exact Has.head | exact Has.tail Has.head | exact Has.tail (Has.tail Has.head) | exact Has.tail (Has.tail (Has.tail Has.head)) | exact Has.tail (Has.tail (Has.tail (Has.tail Has.head))) | exact Has.tail (Has.tail (Has.tail (Has.tail (Has.tail Has.head)))) | exact Has.tail (Has.tail (Has.tail (Has.tail (Has.tail (Has.tail Has.head)))))) rfl ?_
        refine RW.move rfl rfl ?_
        refine RW.guardF rfl rfl rfl rfl ?_
        refine RW.guardF rfl rfl rfl rfl ?_
        refine RW.pickB rfl rfl rfl rfl ?_
        refine RW.move rfl rfl ?_
        refine RW.guardF rfl rfl rfl rfl ?_
        refine RW.guardF rfl rfl rfl rfl ?_
        refine RW.guardF rfl rfl rfl rfl ?_
        refine RW.guardF rfl rfl rfl rfl ?_
        refine RW.guardF rfl rfl rfl rfl ?_
        refine RW.pickB rfl rfl rfl rfl ?_
        refine RW.nilChk rfl rfl ?_
        refine RW.fieldB fl68x1 rfl rfl ?_
        refine RW.store1 sc4 rfl rfl (by first | exact Upd.head | exact Upd.tail Upd.head | exact Upd.tail (Upd.tail Upd.head) | exact Upd.tail (Upd.tail (Upd.tail Upd.head)) | exact Upd.tail (Upd.tail (Upd.tail (Upd.tail Upd.head))) | exact Upd.tail (Upd.tail (Upd.tail (Upd.tail (Upd.tail Upd.head)))) | exact Upd.tail (Upd.tail (Upd.tail (Upd.tail (Upd.tail (Upd.tail Upd.head)))))) rfl (by first | exact Nat.le_of_ble_eq_true rfl | simp) ?_
        refine RW.nil (EX.seq (CW.seq ?_))
        -- mq: region
        refine CW.region ?_
        refine RW.move rfl rfl ?_
        -- mq: at
        refine RW.bytesStr (s := O) (F := fun k => (Value.slice A4 O.length c4).ownBlock = some k) Tryd.underlying53 Tryd.underlying5 Tryd.underlying9 rfl rfl (fun w' hw' => ?_) ?_
        · obtain ⟨A6, c6, he6, hrd6⟩ := Rd.of_own (E := EU8) (hw'.has Has.head) rfl
          cases he6
          exact hrd6
        refine RW.assign rfl rfl ?_
        refine RW.nil (EX.seq (CW.ret ?_))
        refine EX.fin1 Tryd.results39 rfl (fun wz hw => ?_)
        -- mq: done
        exact RetU.of (O, true) (hfin _ (by rfl) (fun _ => rfl)) (hw.rem Rem.head)
      | false =>
        refine CW.exit (EX.seqE (EX.lpE (EX.bkE (EX.seq (CW.seq ?_)))))
        -- mq: region
        refine CW.region ?_
        refine RW.move rfl rfl ?_
        refine RW.move rfl rfl ?_
        refine RW.nilChk rfl rfl ?_
        refine RW.fieldB fl68x1 rfl rfl ?_
        refine RW.loadB1 sc4 rfl rfl (by first | exact Has.head | exact Has.tail Has.head | exact Has.tail (Has.tail Has.head) | exact Has.tail (Has.tail (Has.tail Has.head)) | exact Has.tail (Has.tail (Has.tail (Has.tail Has.head))) | exact Has.tail (Has.tail (Has.tail (Has.tail (Has.tail Has.head)))) | exact Has.tail (Has.tail (Has.tail (Has.tail (Has.tail (Has.tail Has.head)))))) rfl ?_
        refine RW.move rfl rfl ?_
        refine RW.guardT rfl rfl rfl ?_
        refine RW.move rfl rfl ?_
        refine RW.guardT rfl rfl rfl ?_
        refine RW.not_ rfl rfl ?_
        refine RW.pickC rfl rfl rfl rfl ?_
        refine RW.move rfl rfl ?_
        refine RW.guardF rfl rfl rfl rfl ?_
        refine RW.guardF rfl rfl rfl rfl ?_
        refine RW.guardF rfl rfl rfl rfl ?_
        refine RW.guardF rfl rfl rfl rfl ?_
        refine RW.guardF rfl rfl rfl rfl ?_
        refine RW.pickB rfl rfl rfl rfl ?_
        refine RW.nilChk rfl rfl ?_
        refine RW.fieldB fl68x1 rfl rfl ?_
        refine RW.store1 sc4 rfl rfl (by first | exact Upd.head | exact Upd.tail Upd.head | exact Upd.tail (Upd.tail Upd.head) | exact Upd.tail (Upd.tail (Upd.tail Upd.head)) | exact Upd.tail (Upd.tail (Upd.tail (Upd.tail Upd.head))) | exact Upd.tail (Upd.tail (Upd.tail (Upd.tail (Upd.tail Upd.head)))) | exact Upd.tail (Upd.tail (Upd.tail (Upd.tail (Upd.tail (Upd.tail Upd.head)))))) rfl (by first | exact Nat.le_of_ble_eq_true rfl | simp) ?_
        refine RW.nil (EX.seq (CW.seq ?_))
        -- mq: region
        refine CW.region ?_
        refine RW.move rfl rfl ?_
        -- mq: at
        refine RW.bytesStr (s := O) (F := fun k => (Value.slice A4 O.length c4).ownBlock = some k) Tryd.underlying53 Tryd.underlying5 Tryd.underlying9 rfl rfl (fun w' hw' => ?_) ?_
        · obtain ⟨A6, c6, he6, hrd6⟩ := Rd.of_own (E := EU8) (hw'.has Has.head) rfl
          cases he6
          exact hrd6
        refine RW.assign rfl rfl ?_
        refine RW.nil (EX.seq (CW.ret ?_))
        refine EX.fin1 Tryd.results39 rfl (fun wz hw => ?_)
        -- mq: done
        exact RetU.of (O, true) (hfin _ (by rfl) (fun _ => rfl)) (hw.rem Rem.head)
end Go.Proofs.YtnkdabjahmjdoaaDoor.Mq

namespace Go.Proofs.YtnkdabjahmjdoaaDoor.Mq
open Go Go.RowKit Go.Proofs

theorem NumR.bad {x : List UInt8} {f : Bool} {v : Int} {g : Bool} (h : NumR x f (v, g)) (hg : g = false) : f = false ∧ Lib.itoa v = x ∧ In64 v := by
  cases hn : numF x with
  | none => have := h.1 hn; dsimp only at this; rw [hg] at this; cases this
  | some n =>
    have e := h.2 n hn
    have e1 : v = n := congrArg Prod.fst e
    have e2 : g = f := congrArg Prod.snd e
    obtain ⟨h1, h2⟩ := numF_iff.1 hn
    rw [e1]
    exact ⟨by rw [← e2]; exact hg, h1, h2⟩
theorem NumR.good {x : List UInt8} {f : Bool} {v : Int} {g : Bool} (h : NumR x f (v, g)) {n : Int} (hx : Lib.itoa n = x) (hn : In64 n) : v = n ∧ g = f := by
  have e := h.2 n (numF_iff.2 ⟨hx, hn⟩)
  exact ⟨congrArg Prod.fst e, congrArg Prod.snd e⟩
theorem IdR.bad {x : List UInt8} {f : Bool} {v : Int} {g : Bool} (h : IdR x f (v, g)) (hg : g = false) : f = false ∧ ∃ n : Nat, v = n ∧ Lib.decDigits n = x ∧ n < 18446744073709551616 := by
  cases hn : idF x with
  | none => have := h.1 hn; dsimp only at this; rw [hg] at this; cases this
  | some n =>
    have e := h.2.1 n hn
    obtain ⟨h1, h2⟩ := idF_iff.1 hn
    exact ⟨by rw [← show g = f from congrArg Prod.snd e]; exact hg, n, congrArg Prod.fst e, h1, h2⟩
theorem IdR.good {x : List UInt8} {f : Bool} {v : Int} {g : Bool} (h : IdR x f (v, g)) {n : Nat} (hx : Lib.decDigits n = x) (hn : n < 18446744073709551616) : v = n ∧ g = f := by
  have e := h.2.1 n (idF_iff.2 ⟨hx, hn⟩)
  exact ⟨congrArg Prod.fst e, congrArg Prod.snd e⟩
theorem PhR.bad {x : List UInt8} {f : Bool} {v : Int} {g : Bool} (h : PhR x f (v, g)) (hg : g = false) : f = false ∧ phaseW v = x ∧ 0 ≤ v ∧ v ≤ 4 := by
  by_cases hx : ∃ k : Nat, k < 5 ∧ phaseW k = x
  · obtain ⟨k, hk, he⟩ := hx
    have e := h.1 k hk he
    have e1 : v = k := congrArg Prod.fst e
    exact ⟨by rw [← show g = f from congrArg Prod.snd e]; exact hg, by rw [e1]; exact he, by omega, by omega⟩
  · have := h.2 (fun k hk he => hx ⟨k, hk, he⟩)
    dsimp only at this
    rw [hg] at this; cases this
theorem PhR.good {x : List UInt8} {f : Bool} {v : Int} {g : Bool} (h : PhR x f (v, g)) {n : Int} (hx : phaseW n = x) (hn : 0 ≤ n ∧ n ≤ 4) : v = n ∧ g = f := by
  have hq : ((n.toNat : Nat) : Int) = n := by omega
  have e := h.1 n.toNat (by omega) (by rw [hq]; exact hx)
  exact ⟨(congrArg Prod.fst e).trans hq, congrArg Prod.snd e⟩
theorem TextR.bad {x : List UInt8} {f : Bool} {v : List UInt8} {g : Bool} (h : TextR x f (v, g)) (hg : g = false) : f = false ∧ hexT v = x := by
  by_cases hx : ∃ d, hexT d = x
  · obtain ⟨d, he⟩ := hx
    have e := h.1 d he
    have e1 : v = d := congrArg Prod.fst e
    exact ⟨by rw [← show g = f from congrArg Prod.snd e]; exact hg, by rw [e1]; exact he⟩
  · have := h.2.1 (fun d he => hx ⟨d, he⟩)
    dsimp only at this
    rw [hg] at this; cases this
theorem TextR.good {x : List UInt8} {f : Bool} {v : List UInt8} {g : Bool} (h : TextR x f (v, g)) {d : List UInt8} (hx : hexT d = x) : v = d ∧ g = f := by
  have e := h.1 d hx
  exact ⟨congrArg Prod.fst e, congrArg Prod.snd e⟩
/-- a code's word: a dash, or a number -/
def CodeR (x : List UInt8) (f : Bool) (n : Int) (has g : Bool) : Prop := (x = [45] ∧ n = 0 ∧ has = false ∧ g = f) ∨ (x ≠ [45] ∧ has = true ∧ NumR x f (n, g))
theorem itoa_dash (n : Int) : Lib.itoa n ≠ [45] := by
  intro e
  by_cases h0 : n < 0
  · rw [itoa_lt h0] at e; exact dec_ne _ (List.cons.inj e).2
  · rw [itoa_pos (by omega)] at e
    have := dec_digit n.toNat 45 (by rw [e]; simp)
    revert this; decide
theorem CodeR.bad {x : List UInt8} {f : Bool} {n : Int} {has g : Bool} (h : CodeR x f n has g) (hg : g = false) : f = false ∧ codeW has n = x ∧ In64 n := by
  rcases h with ⟨rfl, rfl, rfl, rfl⟩ | ⟨_, rfl, h⟩
  · exact ⟨hg, rfl, by decide⟩
  · exact h.bad hg
theorem CodeR.good {x : List UInt8} {f : Bool} {n : Int} {has g : Bool} (h : CodeR x f n has g) {m : Int} {k : Bool} (hx : codeW k m = x) (hm : In64 m) (hz : k = true ∨ m = 0) : n = m ∧ has = k ∧ g = f := by
  cases k with
  | true =>
    have hx' : Lib.itoa m = x := hx
    rcases h with ⟨rfl, _⟩ | ⟨_, rfl, h⟩
    · exact absurd hx' (itoa_dash m)
    · obtain ⟨h1, h2⟩ := h.good hx' hm
      exact ⟨h1, rfl, h2⟩
  | false =>
    have hx' : [45] = x := hx
    have hm0 : m = 0 := by simpa using hz
    rcases h with ⟨_, rfl, rfl, rfl⟩ | ⟨hne, _⟩
    · exact ⟨hm0.symm, rfl, rfl⟩
    · exact absurd hx'.symm hne
/-- pairs of numbers -/
def PosR : List (List UInt8) → Bool → List (Int × Int) → Bool → Prop
  | [], f, [], g => g = f
  | x :: y :: ws, f, p :: ps, g => ∃ g1 g2, NumR x f (p.1, g1) ∧ NumR y g1 (p.2, g2) ∧ PosR ws g2 ps g
  | _, _, _, _ => False
theorem PosR.bad : ∀ {ws : List (List UInt8)} {f : Bool} {ps : List (Int × Int)} {g : Bool}, PosR ws f ps g → g = false → f = false ∧ posW ps = ws ∧ ∀ p ∈ ps, In64 p.1 ∧ In64 p.2
  | [], f, [], g, h, hg => ⟨by rw [← show g = f from h]; exact hg, rfl, by simp⟩
  | x :: y :: ws, f, p :: ps, g, h, hg => by
    obtain ⟨g1, g2, h1, h2, h3⟩ := h
    obtain ⟨e3, e4, e5⟩ := PosR.bad h3 hg
    obtain ⟨e6, e7, e8⟩ := h2.bad e3
    obtain ⟨e9, e10, e11⟩ := h1.bad e6
    refine ⟨e9, ?_, fun q hq => ?_⟩
    · show [Lib.itoa p.1, Lib.itoa p.2] ++ posW ps = _
      rw [e4, e7, e10]; rfl
    · rcases List.mem_cons.1 hq with rfl | hq
      · exact ⟨e11, e8⟩
      · exact e5 q hq
  | [], _, _ :: _, _, h, _ => h.elim
  | [_], _, _, _, h, _ => by unfold PosR at h; exact h.elim
  | _ :: _ :: _, _, [], _, h, _ => h.elim
theorem PosR.good : ∀ {ws : List (List UInt8)} {f : Bool} {ps : List (Int × Int)} {g : Bool}, PosR ws f ps g → ∀ {qs : List (Int × Int)}, posW qs = ws → (∀ q ∈ qs, In64 q.1 ∧ In64 q.2) → ps = qs ∧ g = f
  | [], f, [], g, h, qs, hw, _ => by
    cases qs with
    | nil => exact ⟨rfl, h⟩
    | cons q qs => cases hw
  | x :: y :: ws, f, p :: ps, g, h, qs, hw, hq => by
    obtain ⟨g1, g2, h1, h2, h3⟩ := h
    cases qs with
    | nil => cases hw
    | cons q qs =>
      have hw' : Lib.itoa q.1 :: Lib.itoa q.2 :: posW qs = x :: y :: ws := hw
      have e1 := (List.cons.inj hw').1
      have e2 := (List.cons.inj (List.cons.inj hw').2).1
      have e3 := (List.cons.inj (List.cons.inj hw').2).2
      have hqq := hq q (by simp)
      obtain ⟨a1, a2⟩ := h1.good e1 hqq.1
      obtain ⟨a3, a4⟩ := h2.good e2 hqq.2
      obtain ⟨a5, a6⟩ := PosR.good h3 e3 (fun z hz => hq z (by simp [hz]))
      exact ⟨by rw [a5, show p = q from Prod.ext a1 a3], by rw [a6, a4, a2]⟩
  | [], _, _ :: _, _, h, _, _, _ => h.elim
  | [_], _, _, _, h, _, _, _ => by unfold PosR at h; exact h.elim
  | _ :: _ :: _, _, [], _, h, _, _, _ => h.elim
end Go.Proofs.YtnkdabjahmjdoaaDoor.Mq

namespace Go.Proofs.YtnkdabjahmjdoaaDoor.Mq
open Go Go.RowKit Go.Proofs

def lf1 (b : BlkV) : List UInt8 := [98, 108, 111, 99, 107, 32] ++ Lib.decDigits b.id ++ [32] ++ phaseW b.ph
def lf2 (b : BlkV) : List UInt8 := lf1 b ++ (if b.cut = true then [32, 99, 117, 116, 32] else [32, 119, 104, 111, 108, 101, 32])
def lf3 (b : BlkV) : List UInt8 := lf2 b ++ codeW b.has b.code
def posT (l : List (Int × Int)) : List UInt8 := l.flatMap (fun p => [32] ++ Lib.itoa p.1 ++ [32] ++ Lib.itoa p.2)
theorem phaseW_le (n : Int) : (phaseW n).length ≤ 8 := by unfold phaseW; repeat (first | decide | split)
theorem codeW_le {b : BlkV} (hb : b.Wf) : (codeW b.has b.code).length ≤ 21 := by
  unfold codeW; split
  · exact itoa_len hb.code
  · decide
theorem lf1_le {b : BlkV} (hb : b.Wf) : (lf1 b).length ≤ 40 := by
  have h1 := dec_len20 hb.id
  have h2 := phaseW_le b.ph
  simp only [lf1, List.length_append, List.length_cons, List.length_nil]; omega
theorem lf2_le {b : BlkV} (hb : b.Wf) : (lf2 b).length ≤ 50 := by
  have h1 := lf1_le hb
  unfold lf2
  rw [List.length_append]
  split <;> simp <;> omega
theorem lf3_le {b : BlkV} (hb : b.Wf) : (lf3 b).length ≤ 80 := by
  have h1 := lf2_le hb
  have h2 := codeW_le hb
  unfold lf3
  rw [List.length_append]; omega
theorem posT_take {b : BlkV} {k : Nat} {p : Int × Int} (h : b.pos[k]? = some p) : posT (b.pos.take (k + 1)) = posT (b.pos.take k) ++ ([32] ++ Lib.itoa p.1 ++ [32] ++ Lib.itoa p.2) := by
  rw [List.take_add_one, h]; simp [posT]
theorem posT_le {b : BlkV} (hb : b.Wf) (k : Nat) : (posT (b.pos.take k)).length ≤ 44 * k := by
  induction k with
  | zero => simp [posT]
  | succ k ih =>
    cases hk : b.pos[k]? with
    | none =>
      rw [List.take_add_one, hk]
      simp only [Option.toList_none, List.append_nil]
      omega
    | some p =>
      rw [posT_take hk]
      have hp := hb.pos p (List.mem_of_getElem? hk)
      have h1 := itoa_len hp.1
      have h2 := itoa_len hp.2
      simp only [List.length_append, List.length_cons, List.length_nil]
      omega
theorem lineF_eq (b : BlkV) : lineF b = lf3 b ++ posT b.pos ++ [32] ++ hexT b.dir ++ [32] ++ hexT b.line := by
  show Lib.join [[98, 108, 111, 99, 107], Lib.decDigits b.id, phaseW b.ph, cutW b.cut, codeW b.has b.code, Lib.itoa b.r1, Lib.itoa b.c1, Lib.itoa b.r2, Lib.itoa b.c2, Lib.itoa b.r3, Lib.itoa b.c3, Lib.itoa b.r4, Lib.itoa b.c4, Lib.itoa b.r5, Lib.itoa b.c5, hexT b.dir, hexT b.line] [32] = _
  have e : posT b.pos = [32] ++ Lib.itoa b.r1 ++ [32] ++ Lib.itoa b.c1 ++ ([32] ++ Lib.itoa b.r2 ++ [32] ++ Lib.itoa b.c2) ++ ([32] ++ Lib.itoa b.r3 ++ [32] ++ Lib.itoa b.c3) ++ ([32] ++ Lib.itoa b.r4 ++ [32] ++ Lib.itoa b.c4) ++ ([32] ++ Lib.itoa b.r5 ++ [32] ++ Lib.itoa b.c5) := by simp [posT, BlkV.pos]
  simp only [joinTwo, Lib.join_one]
  rw [e]
  unfold lf3 lf2 lf1 cutW
  split <;> simp
theorem refLine31_c (w : World) (b : BlkV) (hb : b.Wf) (ht : toldB b = true) :
    Calls Tryd.prog 18 [.agg b.cells.toArray].toArray w (fun e w' => e = .returned (.string (bs (lineF b))) ∧ Ext [] w w') := by
  obtain ⟨hph, hpos, hdl, hll, hcode⟩ := toldB_iff.1 ht
  have hd := dec_len20 hb.id
  have hc := itoa_len hb.code
  have h1 := lf1_le hb
  have h2 := lf2_le hb
  have h3 := lf3_le hb
  obtain ⟨q, hq⟩ : ∃ q : Nat, b.ph = q := ⟨b.ph.toNat, by omega⟩
  have hat : phasesL[q]? = some (phaseW b.ph) := by rw [hq]; exact phasesL_at (by omega)
  have hpl := phaseW_le b.ph
  refine calls (n := 68) Tryd.func18 rfl Tryd.ntmps18 rfl ?_
  refine CW.sub (H' := SH w [] []) ?_ (Sub.refl _) (fun x hx => SH.start' _ _ hx)
  refine CW.seq (CW.region ?_)
  refine RW.boxA rfl rfl (fun g1 hg1 hf1 => ?_)
  refine RW.assign rfl rfl ?_
  refine RW.nil (EX.seq (CW.seq ?_))
  -- mq: region
  refine CW.drawU [0, 1, 6, 7] 3 [[(2, false, [3, 4]), (5, false, [8]), (9, false, [10, 11])]] (Ch [blk g1 b.cells 26]) mixed (by kernel_rfl) (fun _ hw => hw.drew) (fun _ h => (by first | trivial | exact h | exact h.ch | exact (h.rem Rem.head).ch | exact ((h.rem Rem.head).rem Rem.head).ch | exact (((h.rem Rem.head).rem Rem.head).rem Rem.head).ch)) ?_
  refine QuP.cons rfl (fun wq hq => (RW.fieldB fl26x0 rfl rfl RW.jn)) ?_
  refine QuP.cons rfl (fun wq hq => (RW.load1 sc22 rfl rfl (fun w1 e1 => by subst e1; exact hq.blk_cell (by first | exact Has.head | exact Has.tail Has.head | exact Has.tail (Has.tail Has.head) | exact Has.tail (Has.tail (Has.tail Has.head)) | exact Has.tail (Has.tail (Has.tail (Has.tail Has.head))) | exact Has.tail (Has.tail (Has.tail (Has.tail (Has.tail Has.head)))) | exact Has.tail (Has.tail (Has.tail (Has.tail (Has.tail (Has.tail Has.head)))))) rfl) RW.jn)) ?_
  refine QuP.cons rfl (fun wq hq => (RW.fieldB fl26x1 rfl rfl RW.jn)) ?_
  refine QuP.cons rfl (fun wq hq => (RW.load1 sc3 rfl rfl (fun w1 e1 => by subst e1; exact hq.blk_cell (by first | exact Has.head | exact Has.tail Has.head | exact Has.tail (Has.tail Has.head) | exact Has.tail (Has.tail (Has.tail Has.head)) | exact Has.tail (Has.tail (Has.tail (Has.tail Has.head))) | exact Has.tail (Has.tail (Has.tail (Has.tail (Has.tail Has.head)))) | exact Has.tail (Has.tail (Has.tail (Has.tail (Has.tail (Has.tail Has.head)))))) rfl) RW.jn)) ?_
  refine QuP.nil ?_
  refine UW.step [_] rfl (List.forall_mem_cons.2 ⟨?_, by simp⟩)
  refine RW.call rfl ca25 rfl (fun w' _ => refId_c b.id w' b.id (Nat.le_refl _) hb.id) ?_
  refine RW.st (fun _ => True) (fun _ h => .inr (by first | trivial | exact h | exact h.ch | exact (h.rem Rem.head).ch | exact ((h.rem Rem.head).rem Rem.head).ch | exact (((h.rem Rem.head).rem Rem.head).rem Rem.head).ch)) (fun _ h => trivial) ?_
  refine QuP.cons rfl (fun wq hq => (RW.catS rfl rfl rfl (by first | omega | (simp only [List.length_append, List.length_cons, List.length_nil]; omega)) RW.jn)) ?_
  refine QuP.cons rfl (fun wq hq => (RW.catS rfl rfl rfl (by first | omega | (simp only [List.length_append, List.length_cons, List.length_nil]; omega)) RW.jn)) ?_
  refine QuP.nil ?_
  refine UW.step [_] rfl (List.forall_mem_cons.2 ⟨?_, by simp⟩)
  -- mq: op 5: ('Op.call', ('Call.mk', ('Callee.value', ('Operand.func', '14')), ('arr',), ('arr',))) -> slot 11 ("ref.go:40")
  refine RW.callK rfl ca14 rfl (fun w' _ => phases_c w') (fun w0 w1 A9 n9 c9 hw0 he01 hw1 hlt9 hrd9 => ?_)
  have hn9 : n9 = 5 := hrd9.len.symm
  have hx1 : Ext [] w w1 := hw0.ext.trans0 he01
  have hcv := hw0.cov
  obtain ⟨ad, hA, had, hcell⟩ := hrd9.at_ hat
  refine RW.st (fun _ => True) (fun _ h => .inr ⟨.inr (by first | trivial | exact h | exact h.ch | exact (h.rem Rem.head).ch | exact ((h.rem Rem.head).rem Rem.head).ch | exact (((h.rem Rem.head).rem Rem.head).rem Rem.head).ch), trivial⟩) (fun _ h => trivial) ?_
  refine QuP.cons rfl (fun wq hq => (RW.ixAddr (q := q) sl33 rfl rfl rfl (by first | rfl | assumption) (by omega) (by omega) RW.jn)) ?_
  refine QuP.nil ?_
  refine UW.step [_] rfl (List.forall_mem_cons.2 ⟨?_, by simp⟩)
  -- mq: op 9: ('Op.load', '9', ('Operand.tmp', '14')) -> slot 15 ("ref.go:40")
  refine RW.load1 sc9 rfl rfl (fun w' hw' => hw'.base_cell (hcell 0 _ rfl) (fun hk2 => by have := hlt9 _ hk2; have : w0.heap.size ≤ ad.block := had; simp only [block_add] at *; omega)) ?_
  refine RW.st (fun _ => True) (fun _ h => .inr ⟨.inr ⟨.inr (by first | trivial | exact h | exact h.ch | exact (h.rem Rem.head).ch | exact ((h.rem Rem.head).rem Rem.head).ch | exact (((h.rem Rem.head).rem Rem.head).rem Rem.head).ch), trivial⟩, trivial⟩) (fun _ h => trivial) ?_
  refine QuP.cons rfl (fun wq hq => (RW.catS rfl rfl rfl (by first | omega | (simp only [List.length_append, List.length_cons, List.length_nil]; omega)) RW.jn)) ?_
  refine QuP.cons rfl (fun wq hq => (RW.assign rfl rfl RW.jn)) ?_
  refine QuP.nil ?_
  refine UW.nil (EX.seq (CW.seq ?_))
  -- mq: seq
  refine CW.join ([(1, .pointer (some ⟨g1, 0, none⟩)), (3, .string (bs (lf2 b)))]) (SH w1 (feet [blk g1 b.cells 26]) [blk g1 b.cells 26]) ?_ ?_
  · skip
    refine CW.seq (CW.region ?_)
    refine RW.fieldB fl26x9 rfl rfl ?_
    refine RW.loadB1 sc4 rfl rfl (by first | exact Has.head | exact Has.tail Has.head | exact Has.tail (Has.tail Has.head) | exact Has.tail (Has.tail (Has.tail Has.head)) | exact Has.tail (Has.tail (Has.tail (Has.tail Has.head))) | exact Has.tail (Has.tail (Has.tail (Has.tail (Has.tail Has.head)))) | exact Has.tail (Has.tail (Has.tail (Has.tail (Has.tail (Has.tail Has.head)))))) rfl ?_
    refine RW.nil (EX.seq ?_)
    -- mq: cond
    first | refine CW.condD rfl (fun h4 => ?_) (fun h4 => ?_) | refine CW.cond rfl (fun h4 => ?_) (fun h4 => ?_)
    · skip
      rw [lf2, if_pos h4]
      refine CW.region ?_
      refine RW.move rfl rfl ?_
      refine RW.catS rfl rfl rfl (by first | omega | (simp only [List.length_append, List.length_cons, List.length_nil]; omega)) ?_
      refine RW.assign rfl rfl ?_
      refine RW.nil ?_
      -- mq: joinend
      exact EX.jn (by repeat (first | exact Sub.nil | refine Sub.cons (by rfl) ?_)) (fun _ h => h)
    · skip
      rw [lf2, if_neg (by simp [h4])]
      refine CW.region ?_
      refine RW.move rfl rfl ?_
      refine RW.catS rfl rfl rfl (by first | omega | (simp only [List.length_append, List.length_cons, List.length_nil]; omega)) ?_
      refine RW.assign rfl rfl ?_
      refine RW.nil ?_
      -- mq: joinend
      exact EX.jn (by repeat (first | exact Sub.nil | refine Sub.cons (by rfl) ?_)) (fun _ h => h)
  · skip
    refine EX.seq (CW.seq ?_)
    -- mq: seq
    refine CW.join ([(1, .pointer (some ⟨g1, 0, none⟩)), (3, .string (bs (lf3 b)))]) (SH w1 (feet [blk g1 b.cells 26]) [blk g1 b.cells 26]) ?_ ?_
    · skip
      refine CW.seq (CW.region ?_)
      refine RW.fieldB fl26x8 rfl rfl ?_
      refine RW.loadB1 sc4 rfl rfl (by first | exact Has.head | exact Has.tail Has.head | exact Has.tail (Has.tail Has.head) | exact Has.tail (Has.tail (Has.tail Has.head)) | exact Has.tail (Has.tail (Has.tail (Has.tail Has.head))) | exact Has.tail (Has.tail (Has.tail (Has.tail (Has.tail Has.head)))) | exact Has.tail (Has.tail (Has.tail (Has.tail (Has.tail (Has.tail Has.head)))))) rfl ?_
      refine RW.nil (EX.seq ?_)
      -- mq: cond
      first | refine CW.condD rfl (fun h5 => ?_) (fun h5 => ?_) | refine CW.cond rfl (fun h5 => ?_) (fun h5 => ?_)
      · skip
        rw [lf3, codeW, if_pos h5]
        refine CW.region ?_
        refine RW.move rfl rfl ?_
        refine RW.fieldB fl26x7 rfl rfl ?_
        refine RW.loadB1 sc3 rfl rfl (by first | exact Has.head | exact Has.tail Has.head | exact Has.tail (Has.tail Has.head) | exact Has.tail (Has.tail (Has.tail Has.head)) | exact Has.tail (Has.tail (Has.tail (Has.tail Has.head))) | exact Has.tail (Has.tail (Has.tail (Has.tail (Has.tail Has.head)))) | exact Has.tail (Has.tail (Has.tail (Has.tail (Has.tail (Has.tail Has.head)))))) rfl ?_
        refine RW.call rfl ca26 rfl (fun w' _ => refNumber_c w' b.code hb.code) ?_
        refine RW.catS rfl rfl rfl (by first | omega | (simp only [List.length_append, List.length_cons, List.length_nil]; omega)) ?_
        refine RW.assign rfl rfl ?_
        refine RW.nil ?_
        -- mq: joinend
        exact EX.jn (by repeat (first | exact Sub.nil | refine Sub.cons (by rfl) ?_)) (fun _ h => h)
      · skip
        rw [lf3, codeW, if_neg (by simp [h5])]
        refine CW.region ?_
        refine RW.move rfl rfl ?_
        refine RW.catS rfl rfl rfl (by first | omega | (simp only [List.length_append, List.length_cons, List.length_nil]; omega)) ?_
        refine RW.assign rfl rfl ?_
        refine RW.nil ?_
        -- mq: joinend
        exact EX.jn (by repeat (first | exact Sub.nil | refine Sub.cons (by rfl) ?_)) (fun _ h => h)
    · skip
      refine EX.seq (CW.seq ?_)
      -- mq: region
      refine CW.region ?_
      refine RW.loadBA ag26 rfl rfl (by first | exact Has.head | exact Has.tail Has.head | exact Has.tail (Has.tail Has.head) | exact Has.tail (Has.tail (Has.tail Has.head)) | exact Has.tail (Has.tail (Has.tail (Has.tail Has.head))) | exact Has.tail (Has.tail (Has.tail (Has.tail (Has.tail Has.head)))) | exact Has.tail (Has.tail (Has.tail (Has.tail (Has.tail (Has.tail Has.head)))))) rfl rfl ?_
      -- mq: at
      refine RW.callK rfl ca31 rfl (fun w' _ => refPlaces_c w' b) (fun w2 w3 A8 n8 c8 hw2 he23 hw3 hlt8 hrd8 => ?_)
      have hn8 : n8 = 5 := hrd8.len.symm
      have hx3 : Ext [] w w3 := (hw2.unbase hx1 hcv).ext.trans0 he23
      refine RW.assign rfl rfl ?_
      refine RW.nil (EX.seq (CW.seq (CW.seq (CW.region ?_))))
      refine RW.assign rfl rfl ?_
      refine RW.nil (EX.seq (CW.block ?_))
      -- mq: loop
      refine CW.loop (ι := Nat) (fun k => [(1, .pointer (some ⟨g1, 0, none⟩)), (3, .string (bs (lf3 b ++ posT (b.pos.take k)))), (4, .slice A8 n8 c8), (5, .int .i64 (k : Int))]) (fun _ => SH w3 (feet [blk g1 b.cells 26]) [blk g1 b.cells 26]) (fun k => k ≤ 5) (fun k => 5 - k) ?_ ?_
      · refine fun w' hw' => ⟨0, Nat.zero_le _, ?_, hw'⟩
        rw [show lf3 b ++ posT (b.pos.take 0) = lf3 b by simp [posT]]
        exact (by repeat (first | exact Sub.nil | refine Sub.cons (by rfl) ?_))
      · intro k hk
        have hpk := posT_le hb k
        refine CW.seq (CW.seq (CW.region ?_))
        refine RW.move rfl rfl ?_
        refine RW.move rfl rfl ?_
        refine RW.lenSl Tryd.underlying61 rfl rfl ?_
        refine RW.lss rfl rfl rfl ?_
        refine RW.nil (EX.seq ?_)
        -- mq: cond
        first | refine CW.condD rfl (fun hlt => ?_) (fun hlt => ?_) | refine CW.cond rfl (fun hlt => ?_) (fun hlt => ?_)
        · skip
          obtain ⟨⟨pr, pc⟩, hp⟩ : ∃ p, b.pos[k]? = some p := ⟨b.pos[k]'(by show k < 5; omega), List.getElem?_eq_getElem _⟩
          have hpr := hpos _ (List.mem_of_getElem? hp)
          simp only [rightP, decide_eq_true_eq] at hpr
          obtain ⟨mr, rfl⟩ : ∃ m : Nat, pr = m := ⟨pr.toNat, by omega⟩
          obtain ⟨mc, rfl⟩ : ∃ m : Nat, pc = m := ⟨pc.toNat, by omega⟩
          have hpt := posT_take hp
          have hl1 := dec_len20 (u := mr) (by omega)
          have hl2 := dec_len20 (u := mc) (by omega)
          rw [Lib.itoa_nonneg, Lib.itoa_nonneg] at hpt
          obtain ⟨ad8, hA8, hAd8, hcl8⟩ := hrd8.at_ hp
          refine CW.skip (EX.seq (CW.seq (CW.block ?_)))
          -- mq: region
          refine CW.drawU [0, 1, 2, 3, 4, 5, 6, 10, 11, 12, 13, 14] 2 [[(7, false, [8, 9]), (15, false, [16, 17])]] (SH w3 (feet [blk g1 b.cells 26]) [blk g1 b.cells 26]) mixed (by kernel_rfl) (fun _ hw => hw.drew) (fun _ h => (by first | trivial | exact h | exact h.ch | exact (h.rem Rem.head).ch | exact ((h.rem Rem.head).rem Rem.head).ch | exact (((h.rem Rem.head).rem Rem.head).rem Rem.head).ch)) ?_
          refine QuP.cons rfl (fun wq hq => (RW.move rfl rfl RW.jn)) ?_
          refine QuP.cons rfl (fun wq hq => (RW.catS rfl rfl rfl (by first | omega | (simp only [List.length_append, List.length_cons, List.length_nil]; omega)) RW.jn)) ?_
          refine QuP.cons rfl (fun wq hq => (RW.move rfl rfl RW.jn)) ?_
          refine QuP.cons rfl (fun wq hq => (RW.move rfl rfl RW.jn)) ?_
          refine QuP.cons rfl (fun wq hq => (RW.ixAddr (q := k) sl61 rfl rfl rfl (by first | rfl | assumption) (by omega) (by omega) RW.jn)) ?_
          refine QuP.cons rfl (fun wq hq => (RW.fieldP fl24x0 rfl rfl RW.jn)) ?_
          refine QuP.cons rfl (fun wq hq => (RW.load1 sc3 rfl rfl (fun w1 e1 => by subst e1; exact (hq.base_cell (hcl8 0 _ rfl) (fun hk2 => by have := hlt8 _ hk2; have : w2.heap.size ≤ ad8.block := hAd8; simp only [block_add] at *; omega))) RW.jn)) ?_
          refine QuP.cons rfl (fun wq hq => (RW.move rfl rfl RW.jn)) ?_
          refine QuP.cons rfl (fun wq hq => (RW.move rfl rfl RW.jn)) ?_
          refine QuP.cons rfl (fun wq hq => (RW.ixAddr (q := k) sl61 rfl rfl rfl (by first | rfl | assumption) (by omega) (by omega) RW.jn)) ?_
          refine QuP.cons rfl (fun wq hq => (RW.fieldP fl24x1 rfl rfl RW.jn)) ?_
          refine QuP.cons rfl (fun wq hq => (RW.load1 sc3 rfl rfl (fun w1 e1 => by subst e1; exact (hq.base_cell (hcl8 1 _ rfl) (fun hk2 => by have := hlt8 _ hk2; have : w2.heap.size ≤ ad8.block := hAd8; simp only [block_add] at *; omega))) RW.jn)) ?_
          refine QuP.nil ?_
          refine UW.step [_] rfl (List.forall_mem_cons.2 ⟨?_, by simp⟩)
          refine RW.call rfl ca40 rfl (fun w' _ => refDigits_c w' mr (by omega)) ?_
          refine RW.st (fun _ => True) (fun _ h => .inr (by first | trivial | exact h | exact h.ch | exact (h.rem Rem.head).ch | exact ((h.rem Rem.head).rem Rem.head).ch | exact (((h.rem Rem.head).rem Rem.head).rem Rem.head).ch)) (fun _ h => trivial) ?_
          refine QuP.cons rfl (fun wq hq => (RW.catS rfl rfl rfl (by first | omega | (simp only [List.length_append, List.length_cons, List.length_nil]; omega)) RW.jn)) ?_
          refine QuP.cons rfl (fun wq hq => (RW.catS rfl rfl rfl (by first | omega | (simp only [List.length_append, List.length_cons, List.length_nil]; omega)) RW.jn)) ?_
          refine QuP.nil ?_
          refine UW.step [_] rfl (List.forall_mem_cons.2 ⟨?_, by simp⟩)
          refine RW.call rfl ca40 rfl (fun w' _ => refDigits_c w' mc (by omega)) ?_
          refine RW.st (fun _ => True) (fun _ h => .inr ⟨.inr (by first | trivial | exact h | exact h.ch | exact (h.rem Rem.head).ch | exact ((h.rem Rem.head).rem Rem.head).ch | exact (((h.rem Rem.head).rem Rem.head).rem Rem.head).ch), trivial⟩) (fun _ h => trivial) ?_
          refine QuP.cons rfl (fun wq hq => (RW.catS rfl rfl rfl (by first | omega | (simp only [List.length_append, List.length_cons, List.length_nil]; omega)) RW.jn)) ?_
          refine QuP.cons rfl (fun wq hq => (RW.assign rfl rfl RW.jn)) ?_
          refine QuP.nil ?_
          refine UW.nil (EX.bkN (EX.seq (CW.region ?_)))
          refine RW.move rfl rfl ?_
          refine RW.add rfl rfl rfl (wrap64 (by omega) (by omega)) ?_
          refine RW.assign rfl rfl ?_
          refine RW.nil ?_
          -- mq: loopend
          exact EX.lpN (k + 1) (by omega) (by omega) (by rw [hpt, show lf3 b ++ (posT (b.pos.take k) ++ ([32] ++ Lib.decDigits mr ++ [32] ++ Lib.decDigits mc)) = lf3 b ++ posT (b.pos.take k) ++ [32] ++ Lib.decDigits mr ++ [32] ++ Lib.decDigits mc by simp]; exact (by repeat (first | exact Sub.nil | refine Sub.cons (by rfl) ?_))) (fun w' hw' => hw')
        · skip
          have hkt : b.pos.take k = b.pos := List.take_of_length_le (by show 5 ≤ k; omega)
          rw [hkt] at hpk ⊢
          have hd1 : (hexT b.dir).length ≤ 513 := by unfold hexT; rw [List.length_cons, hexP_len]; omega
          have hd2 : (hexT b.line).length ≤ 513 := by unfold hexT; rw [List.length_cons, hexP_len]; omega
          refine CW.exit (EX.seqE (EX.lpE (EX.bkE (EX.seq (CW.seq ?_)))))
          -- mq: region
          refine CW.drawU [0, 1, 2, 3, 7, 8] 2 [[(4, false, [5, 6]), (9, false, [10, 11])]] (Ch [blk g1 b.cells 26]) mixed (by kernel_rfl) (fun _ hw => hw.drew) (fun _ h => (by first | trivial | exact h | exact h.ch | exact (h.rem Rem.head).ch | exact ((h.rem Rem.head).rem Rem.head).ch | exact (((h.rem Rem.head).rem Rem.head).rem Rem.head).ch)) ?_
          refine QuP.cons rfl (fun wq hq => (RW.move rfl rfl RW.jn)) ?_
          refine QuP.cons rfl (fun wq hq => (RW.catS rfl rfl rfl (by first | omega | (simp only [List.length_append, List.length_cons, List.length_nil]; omega)) RW.jn)) ?_
          refine QuP.cons rfl (fun wq hq => (RW.fieldB fl26x10 rfl rfl RW.jn)) ?_
          refine QuP.cons rfl (fun wq hq => (RW.load1 sc9 rfl rfl (fun w1 e1 => by subst e1; exact hq.blk_cell (by first | exact Has.head | exact Has.tail Has.head | exact Has.tail (Has.tail Has.head) | exact Has.tail (Has.tail (Has.tail Has.head)) | exact Has.tail (Has.tail (Has.tail (Has.tail Has.head))) | exact Has.tail (Has.tail (Has.tail (Has.tail (Has.tail Has.head)))) | exact Has.tail (Has.tail (Has.tail (Has.tail (Has.tail (Has.tail Has.head)))))) rfl) RW.jn)) ?_
          refine QuP.cons rfl (fun wq hq => (RW.fieldB fl26x11 rfl rfl RW.jn)) ?_
          refine QuP.cons rfl (fun wq hq => (RW.load1 sc9 rfl rfl (fun w1 e1 => by subst e1; exact hq.blk_cell (by first | exact Has.head | exact Has.tail Has.head | exact Has.tail (Has.tail Has.head) | exact Has.tail (Has.tail (Has.tail Has.head)) | exact Has.tail (Has.tail (Has.tail (Has.tail Has.head))) | exact Has.tail (Has.tail (Has.tail (Has.tail (Has.tail Has.head)))) | exact Has.tail (Has.tail (Has.tail (Has.tail (Has.tail (Has.tail Has.head)))))) rfl) RW.jn)) ?_
          refine QuP.nil ?_
          refine UW.step [_] rfl (List.forall_mem_cons.2 ⟨?_, by simp⟩)
          refine RW.call rfl ca41 rfl (fun w' _ => refHex_c w' b.dir (by omega)) ?_
          refine RW.st (fun _ => True) (fun _ h => .inr (by first | trivial | exact h | exact h.ch | exact (h.rem Rem.head).ch | exact ((h.rem Rem.head).rem Rem.head).ch | exact (((h.rem Rem.head).rem Rem.head).rem Rem.head).ch)) (fun _ h => trivial) ?_
          refine QuP.cons rfl (fun wq hq => (RW.catS rfl rfl rfl (by first | omega | (simp only [List.length_append, List.length_cons, List.length_nil]; omega)) RW.jn)) ?_
          refine QuP.cons rfl (fun wq hq => (RW.catS rfl rfl rfl (by first | omega | (simp only [List.length_append, List.length_cons, List.length_nil]; omega)) RW.jn)) ?_
          refine QuP.nil ?_
          refine UW.step [_] rfl (List.forall_mem_cons.2 ⟨?_, by simp⟩)
          refine RW.call rfl ca41 rfl (fun w' _ => refHex_c w' b.line (by omega)) ?_
          refine RW.st (fun _ => True) (fun _ h => .inr ⟨.inr (by first | trivial | exact h | exact h.ch | exact (h.rem Rem.head).ch | exact ((h.rem Rem.head).rem Rem.head).ch | exact (((h.rem Rem.head).rem Rem.head).rem Rem.head).ch), trivial⟩) (fun _ h => trivial) ?_
          refine QuP.cons rfl (fun wq hq => (RW.catS rfl rfl rfl (by first | omega | (simp only [List.length_append, List.length_cons, List.length_nil]; omega)) RW.jn)) ?_
          refine QuP.cons rfl (fun wq hq => (RW.assign rfl rfl RW.jn)) ?_
          refine QuP.nil ?_
          refine UW.nil (EX.seq (CW.ret ?_))
          refine EX.fin1 Tryd.results18 rfl (fun wz hw => ?_)
          -- mq: done
          exact ⟨by rw [lineF_eq], (hw.unbase hx3 hcv).ext⟩
end Go.Proofs.YtnkdabjahmjdoaaDoor.Mq

namespace Go.Proofs.YtnkdabjahmjdoaaDoor.Mq
open Go Go.RowKit Go.Proofs

def zeroB : BlkV := ⟨0, 0, 0, 0, 0, 0, 0, 0, 0, 0, 0, 0, 0, false, false, [], []⟩
def blockW : List UInt8 := [98, 108, 111, 99, 107]
def IsLine (s : List UInt8) (b : BlkV) : Prop := b.Wf ∧ toldB b = true ∧ lineF b = s
open Classical in
/-- a line's block, or why it is none -/
noncomputable def parseD (s : List UInt8) : BlkV × Nat := if (fullP 32 s).headD [] ≠ blockW then (zeroB, 7) else if h : ∃ b, IsLine s b then (Classical.choose h, 0) else (zeroB, 4)
theorem parseD_some {s : List UInt8} {b : BlkV} (h : IsLine s b) : parseD s = (b, 0) := by
  have hh : (fullP 32 s).headD [] = blockW := by rw [← h.2.2, words_line]; rfl
  unfold parseD
  rw [if_neg (fun e => e hh), dif_pos ⟨b, h⟩]
  have hc := Classical.choose_spec (⟨b, h⟩ : ∃ b, IsLine s b)
  rw [lineF_inj hc.2.1 h.2.1 (hc.2.2.trans h.2.2.symm)]
theorem parseD_no {s : List UInt8} (h : (fullP 32 s).headD [] ≠ blockW) : parseD s = (zeroB, 7) := by unfold parseD; rw [if_pos h]
theorem parseD_none {s : List UInt8} (h : (fullP 32 s).headD [] = blockW) (hn : ¬ ∃ b, IsLine s b) : parseD s = (zeroB, 4) := by unfold parseD; rw [if_neg (fun e => e h), dif_neg hn]
theorem isLine_words {s : List UInt8} {b : BlkV} (h : IsLine s b) : fullP 32 s = wordsF b := by rw [← h.2.2, words_line]
theorem len17 : ∀ {L : List (List UInt8)}, L.length = 17 → ∃ x0 x1 x2 x3 x4 y1 y2 y3 y4 y5 y6 y7 y8 y9 y10 x15 x16, L = [x0, x1, x2, x3, x4, y1, y2, y3, y4, y5, y6, y7, y8, y9, y10, x15, x16]
  | [x0, x1, x2, x3, x4, y1, y2, y3, y4, y5, y6, y7, y8, y9, y10, x15, x16], _ => ⟨_, _, _, _, _, _, _, _, _, _, _, _, _, _, _, _, _, rfl⟩
/-- what the readers have made of the words -/
def ReadB (x1 x2 x3 x4 : List UInt8) (ys : List (List UInt8)) (x15 x16 : List UInt8) (b : BlkV) (f : Bool) : Prop :=
  ∃ f1 f2 f4 f5 f6, IdR x1 false ((b.id : Int), f1) ∧ PhR x2 f1 (b.ph, f2) ∧ b.cut = decide (x3 = cutW true) ∧ CodeR x4 (f2 || (decide (x3 ≠ cutW true) && decide (x3 ≠ cutW false))) b.code b.has f4 ∧ PosR ys f4 b.pos f5 ∧ TextR x15 f5 (b.dir, f6) ∧ TextR x16 f6 (b.line, f)
theorem cutW_of {x : List UInt8} {c : Bool} (hc : c = decide (x = cutW true)) (h : (decide (x ≠ cutW true) && decide (x ≠ cutW false)) = false) : cutW c = x := by
  by_cases h1 : x = cutW true
  · rw [hc, decide_eq_true h1, h1]
  · rw [hc, decide_eq_false h1]
    rw [decide_eq_true h1, Bool.true_and] at h
    by_cases h2 : x = cutW false
    · exact h2.symm
    · rw [decide_eq_true h2] at h; cases h
theorem ReadB.bad {x1 x2 x3 x4 : List UInt8} {ys : List (List UInt8)} {x15 x16 : List UInt8} {b : BlkV} (h : ReadB x1 x2 x3 x4 ys x15 x16 b false) : wordsF b = blockW :: x1 :: x2 :: x3 :: x4 :: (ys ++ [x15, x16]) ∧ b.Wf := by
  obtain ⟨f1, f2, f4, f5, f6, h1, h2, h3, h4, h5, h6, h7⟩ := h
  obtain ⟨e6, w16⟩ := h7.bad rfl
  obtain ⟨e5, w15⟩ := h6.bad e6
  obtain ⟨e4, wp, np⟩ := h5.bad e5
  obtain ⟨e3, wc, nc⟩ := h4.bad e4
  have e2 : f2 = false := by cases f2 <;> first | rfl | cases e3
  rw [e2, Bool.false_or] at e3
  obtain ⟨e1, w2, _⟩ := h2.bad e2
  obtain ⟨_, n, hn, w1, hlt⟩ := h1.bad e1
  have hid : b.id = n := by omega
  refine ⟨?_, ⟨by omega, nc, np⟩⟩
  unfold wordsF
  rw [hid, w1, w2, cutW_of h3 e3, wc, wp, w15, w16]
  rfl
theorem ReadB.good {x1 x2 x3 x4 : List UInt8} {ys : List (List UInt8)} {x15 x16 : List UInt8} {b c : BlkV} {f : Bool} (h : ReadB x1 x2 x3 x4 ys x15 x16 b f) (hc : c.Wf) (ht : toldB c = true) (hw : wordsF c = blockW :: x1 :: x2 :: x3 :: x4 :: (ys ++ [x15, x16])) : b = c ∧ f = false := by
  obtain ⟨hph, _, _, _, hcode⟩ := toldB_iff.1 ht
  obtain ⟨f1, f2, f4, f5, f6, h1, h2, h3, h4, h5, h6, h7⟩ := h
  have e0 := (List.cons.inj hw).2
  have w1 := (List.cons.inj e0).1
  have e1 := (List.cons.inj e0).2
  have w2 := (List.cons.inj e1).1
  have e2 := (List.cons.inj e1).2
  have w3 := (List.cons.inj e2).1
  have e3 := (List.cons.inj e2).2
  have w4 := (List.cons.inj e3).1
  have e4 := (List.cons.inj e3).2
  have hlen : (posW c.pos).length = ys.length := by
    have := congrArg List.length e4
    simpa using this
  obtain ⟨wp, e5⟩ := List.append_inj e4 hlen
  have w15 := (List.cons.inj e5).1
  have w16 := (List.cons.inj (List.cons.inj e5).2).1
  obtain ⟨a1, g1⟩ := h1.good w1 hc.id
  obtain ⟨a2, g2⟩ := h2.good w2 hph
  have hcut : b.cut = c.cut := by
    rw [h3, ← w3]
    cases c.cut <;> decide
  have hfl : (decide (x3 ≠ cutW true) && decide (x3 ≠ cutW false)) = false := by
    rw [← w3]
    cases c.cut <;> decide
  obtain ⟨a4, a5, g4⟩ := h4.good w4 hc.code hcode
  obtain ⟨a6, g5⟩ := h5.good wp hc.pos
  obtain ⟨a7, g6⟩ := h6.good w15
  obtain ⟨a8, g7⟩ := h7.good w16
  have hff : f = false := by rw [g7, g6, g5, g4, hfl, g2, g1]; rfl
  refine ⟨?_, hff⟩
  have hp : [(b.r1, b.c1), (b.r2, b.c2), (b.r3, b.c3), (b.r4, b.c4), (b.r5, b.c5)] = [(c.r1, c.c1), (c.r2, c.c2), (c.r3, c.c3), (c.r4, c.c4), (c.r5, c.c5)] := a6
  simp only [List.cons.injEq, Prod.mk.injEq, and_true] at hp
  obtain ⟨⟨p1, p2⟩, ⟨p3, p4⟩, ⟨p5, p6⟩, ⟨p7, p8⟩, p9, p10⟩ := hp
  exact BlkV.ext' ⟨⟨by omega, a2, p1, p2, p3, p4, p5, p6, p7⟩, p8, p9, p10, a4, a5, hcut, a7, a8⟩
/-- the answer, off what was read -/
theorem parseD_read {s : List UInt8} {x1 x2 x3 x4 : List UInt8} {ys : List (List UInt8)} {x15 x16 : List UInt8} {b : BlkV} {f : Bool} (hs : fullP 32 s = blockW :: x1 :: x2 :: x3 :: x4 :: (ys ++ [x15, x16])) (h : ReadB x1 x2 x3 x4 ys x15 x16 b f) :
    parseD s = if f = false ∧ toldB b = true then (b, 0) else (zeroB, 4) := by
  by_cases hf : f = false ∧ toldB b = true
  · rw [if_pos hf]
    obtain ⟨rfl, ht⟩ := hf
    obtain ⟨hw, hwf⟩ := h.bad
    refine parseD_some ⟨hwf, ht, ?_⟩
    rw [lineF, hw, ← hs, join_full]
  · rw [if_neg hf]
    refine parseD_none (by rw [hs]; rfl) ?_
    rintro ⟨c, hc⟩
    obtain ⟨e1, e2⟩ := h.good hc.1 hc.2.1 ((isLine_words hc).symm.trans hs)
    exact hf ⟨e2, by rw [e1]; exact hc.2.1⟩
theorem parseD_len {s : List UInt8} (hh : (fullP 32 s).headD [] = blockW) (h : (fullP 32 s).length ≠ 17) : parseD s = (zeroB, 4) :=
  parseD_none hh fun ⟨b, hb⟩ => h (by rw [isLine_words hb]; rfl)
end Go.Proofs.YtnkdabjahmjdoaaDoor.Mq
