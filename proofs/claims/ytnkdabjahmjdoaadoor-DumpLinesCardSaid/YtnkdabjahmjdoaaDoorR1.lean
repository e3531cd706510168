/- dump: the reader of words: next, number, either, phase -/
import Derived.Test.YtnkdabjahmjdoaaDoorD6
import Derived.Test.YtnkdabjahmjdoaaDoorAto
import Derived.Test.YtnkdabjahmjdoaaDoorTwo
namespace Go.Proofs.YtnkdabjahmjdoaaDoor.Mq
open Go Go.RowKit Go.Proofs

structure WS where
  A : Option Addr
  m : Nat
  c : Nat
def WS.adv (s : WS) : WS := ⟨if s.c = 1 then s.A else s.A.map (·.add (1 * EStr.sz)), s.m - 1, s.c - 1⟩
abbrev rdr (g : Nat) (s : WS) (bad : Bool) : Chunk := blk g [.slice s.A s.m s.c, .bool bad] 68
abbrev RdW (w : World) (F : Nat → Prop) (s : WS) (L : List (List UInt8)) : Prop := Rd EStr w F s.A s.m s.c L
theorem RdW.adv {w : World} {F : Nat → Prop} {s : WS} {x : List UInt8} {L : List (List UInt8)} (h : RdW w F s (x :: L)) : RdW w F s.adv L := by
  have hl := h.len
  have hcut := Rd.cut h (p := 1) (q := s.m) (by rw [← hl]; simp) (Nat.le_refl _)
  rw [show ((x :: L).take s.m).drop 1 = L by rw [← hl, List.take_length]; rfl] at hcut
  exact hcut
theorem next_c (w : World) (g : Nat) (s : WS) (bad : Bool) (F : Nat → Prop) (x : List UInt8) (L : List (List UInt8)) (hr : RdW w F s (x :: L)) (hF : ¬ F g) (h : (rdr g s bad).pred w) :
    Calls Tryd.prog 34 [.pointer (some ⟨g, 0, none⟩)].toArray w (RetU (fun _ : Unit => .string (bs x)) (rdr g s bad) (fun _ => rdr g s.adv bad) (fun _ => True) w) := by
  have hl := hr.len
  have hm : 1 ≤ s.m := by rw [← hl]; simp
  have hc := hr.cap
  obtain ⟨ad, hA, hFa, hcl⟩ := hr.at_ (k := 0) (a := x) rfl
  have hne : ad.block ≠ g := fun e => hF (e ▸ hFa)
  refine calls (n := 16) Tryd.func34 rfl Tryd.ntmps34 rfl ?_
  refine CW.sub (H' := SH w (rdr g s bad).foot [rdr g s bad]) ?_ (Sub.refl _) (fun x hx => SH.startOf' hx h (by simp [blk]))
  refine CW.seq (CW.region ?_)
  refine RW.assign rfl rfl ?_
  refine RW.nil (EX.seq (CW.seq ?_))
  -- mq: region
  refine CW.region ?_
  refine RW.move rfl rfl ?_
  refine RW.nilChk rfl rfl ?_
  refine RW.loadB1 sc66 rfl rfl (by first | exact Has.head | exact Has.tail Has.head | exact Has.tail (Has.tail Has.head) | exact Has.tail (Has.tail (Has.tail Has.head)) | exact Has.tail (Has.tail (Has.tail (Has.tail Has.head))) | exact Has.tail (Has.tail (Has.tail (Has.tail (Has.tail Has.head)))) | exact Has.tail (Has.tail (Has.tail (Has.tail (Has.tail (Has.tail Has.head)))))) rfl ?_
  refine RW.ixAddr (q := 0) sl66 rfl rfl rfl (by first | rfl | assumption) (by omega) (by omega) ?_
  refine RW.load1 sc9 rfl rfl (fun w' hw' => hw'.base_cell (hcl 0 _ rfl) (by simp [feet, blk]; exact hne)) ?_
  refine RW.assign rfl rfl ?_
  refine RW.nil (EX.seq (CW.seq ?_))
  -- mq: region
  refine CW.region ?_
  refine RW.move rfl rfl ?_
  refine RW.move rfl rfl ?_
  refine RW.nilChk rfl rfl ?_
  refine RW.loadB1 sc66 rfl rfl (by first | exact Has.head | exact Has.tail Has.head | exact Has.tail (Has.tail Has.head) | exact Has.tail (Has.tail (Has.tail Has.head)) | exact Has.tail (Has.tail (Has.tail (Has.tail Has.head))) | exact Has.tail (Has.tail (Has.tail (Has.tail (Has.tail Has.head)))) | exact Has.tail (Has.tail (Has.tail (Has.tail (Has.tail (Has.tail Has.head)))))) rfl ?_
  refine RW.sliceSl 1 s.m sl66 rfl rfl (.inl ⟨_, _, rfl, rfl, rfl⟩) (.inr ⟨rfl, rfl⟩) (by omega) (by omega) ?_
  refine RW.nilChk rfl rfl ?_
  refine RW.store1 sc66 rfl rfl (by first | exact Upd.head | exact Upd.tail Upd.head | exact Upd.tail (Upd.tail Upd.head) | exact Upd.tail (Upd.tail (Upd.tail Upd.head)) | exact Upd.tail (Upd.tail (Upd.tail (Upd.tail Upd.head))) | exact Upd.tail (Upd.tail (Upd.tail (Upd.tail (Upd.tail Upd.head)))) | exact Upd.tail (Upd.tail (Upd.tail (Upd.tail (Upd.tail (Upd.tail Upd.head)))))) rfl (by first | exact Nat.le_of_ble_eq_true rfl | simp) ?_
  refine RW.nil (EX.seq (CW.seq (CW.region ?_)))
  refine RW.move rfl rfl ?_
  refine RW.assign rfl rfl ?_
  refine RW.nil (EX.seq (CW.ret ?_))
  refine EX.fin1 Tryd.results34 rfl (fun wz hw => ?_)
  -- mq: done
  exact RetU.of () trivial hw
section
variable {P : Program} {n : Nat} {ops : Array Oper} {Q : Post} {rest : List Oper} {l : Fr} {H : World → Prop} {d : Nat} {ty : TypeId} {pos : String} {af : Array Edge} {x : Operand} {xt yt : TypeId}
theorem RW.neqNilAt (ht : P.isIface xt = true) (hd : Nat.blt d n = true) (hx : ev l x = some .nilIface)
    (h : RW P n ops Q rest ((d, .bool false) :: l) H) : RW P n ops Q (⟨some d, .binOp .neq xt x (.const .nilIface) yt, ty, pos, af, none⟩ :: rest) l H :=
  RW.val _ hd (fun ρ w hρ => by
    have e1 : ρ (.const .nilIface) = .nilIface := hρ _ _ rfl
    have e2 := run_neq_nil_nil_at (P := P) w xt ht
    simp [execOp, hρ x _ hx, e1, eqGuard_nil_constR, e2]) h
theorem RW.neqErr {t : TypeId} {p : Value} (ht : P.isIface xt = true) (hd : Nat.blt d n = true) (hx : ev l x = some (.iface t p))
    (h : RW P n ops Q rest ((d, .bool true) :: l) H) : RW P n ops Q (⟨some d, .binOp .neq xt x (.const .nilIface) yt, ty, pos, af, none⟩ :: rest) l H :=
  RW.val _ hd (fun ρ w hρ => by
    have e1 : ρ (.const .nilIface) = .nilIface := hρ _ _ rfl
    have e2 := run_neq_iface_nil (P := P) w xt ht t p
    have e3 : eqGuard .neq xt x (.const .nilIface) (.iface t p) .nilIface = pure () := by rfl
    simp [execOp, hρ x _ hx, e1, e3, e2]) h
end
/-- what a reader of a number says of a word -/
def NumR (x : List UInt8) (bad : Bool) (i : Int × Bool) : Prop := (numF x = none → i.2 = true) ∧ ∀ n, numF x = some n → i = (n, bad)
/-- the library's variables, as they were before the reader was made -/
def GR (w : World) (g : Nat) : Prop := ∃ w0, Ext [] w0 w ∧ w0.heap.size ≤ g ∧ Gl w0 ∧ Ge w0
theorem GR.gl {w w' : World} {g : Nat} (h : GR w g) (hx : Ext [g] w w') : Gl w' ∧ Ge w' := by
  obtain ⟨w0, h1, h2, h3, h4⟩ := h
  have e : Ext [] w0 w' := h1.trans hx (fun k hk hlt => by simp at hk; omega)
  exact ⟨h3.ext e, h4.ext e⟩
theorem GR.ext {w w' : World} {g : Nat} (h : GR w g) (hx : Ext [g] w w') : GR w' g := by
  obtain ⟨w0, h1, h2, h3, h4⟩ := h
  exact ⟨w0, h1.trans hx (fun k hk hlt => by simp at hk; omega), h2, h3, h4⟩
theorem hFext {w w' : World} {F : Nat → Prop} {g : Nat} {s : WS} {L : List (List UInt8)} (hr : RdW w F s L) (hF : ¬ F g) (hx : Ext [g] w w') : RdW w' F s L :=
  hr.ext hx (by intro k hk hk2; simp at hk2; exact hF (hk2 ▸ hk))
theorem numberR_c (w : World) (g : Nat) (hG : GR w g) (s : WS) (bad : Bool) (F : Nat → Prop) (x : List UInt8) (L : List (List UInt8)) (hr : RdW w F s (x :: L)) (hF : ¬ F g) (hxl : x.length ≤ 1000000) (h : (rdr g s bad).pred w) :
    Calls Tryd.prog 38 [.pointer (some ⟨g, 0, none⟩)].toArray w (RetU (fun i : Int × Bool => .int .i64 i.1) (rdr g s bad) (fun i => rdr g s.adv i.2) (NumR x bad) w) := by
  refine calls (n := 33) Tryd.func38 rfl Tryd.ntmps38 rfl ?_
  refine CW.sub (H' := SH w (rdr g s bad).foot [rdr g s bad]) ?_ (Sub.refl _) (fun x hx => SH.startOf' hx h (by simp [blk]))
  refine CW.seq (CW.region ?_)
  refine RW.assign rfl rfl ?_
  refine RW.nil (EX.seq (CW.seq ?_))
  -- mq: region
  refine CW.region ?_
  refine RW.move rfl rfl ?_
  refine RW.nilChk rfl rfl ?_
  refine RW.fieldP fl68x0 rfl rfl ?_
  refine RW.callUI (fun _ => [rdr g s.adv bad]) rfl ca34 rfl (fun _ => Upd.head) (fun w' hw' => next_c w' g s bad F x L (hFext hr hF hw'.ext) hF (hw'.has Has.head)) (fun _ _ => ?_)
  refine RW.assign rfl rfl ?_
  refine RW.nil (EX.seq (CW.seq ?_))
  -- mq: region
  by_cases hx : ∃ v, Lib.atoiAll x = .ok v
  · skip
    obtain ⟨v, hok⟩ := hx
    have hn : In64 v := Lib.atoiAll_bounds hok
    refine CW.region ?_
    refine RW.move rfl rfl ?_
    refine RW.call rfl caAto rfl (fun w' _ => atoiOk_c w' x v hxl hok) ?_
    refine RW.move rfl rfl ?_
    refine RW.extract rfl rfl rfl ?_
    refine RW.extract rfl rfl rfl ?_
    refine RW.assign rfl rfl ?_
    refine RW.assign rfl rfl ?_
    refine RW.nil (EX.seq (CW.seq ?_))
    -- mq: region
    cases bad with
    | true =>
      refine CW.region ?_
      refine RW.move rfl rfl ?_
      refine RW.move rfl rfl ?_
      refine RW.nilChk rfl rfl ?_
      refine RW.fieldB fl68x1 rfl rfl ?_
      refine RW.loadB1 sc4 rfl rfl (by first | exact Has.head | exact Has.tail Has.head | exact Has.tail (Has.tail Has.head) | exact Has.tail (Has.tail (Has.tail Has.head)) | exact Has.tail (Has.tail (Has.tail (Has.tail Has.head))) | exact Has.tail (Has.tail (Has.tail (Has.tail (Has.tail Has.head)))) | exact Has.tail (Has.tail (Has.tail (Has.tail (Has.tail (Has.tail Has.head)))))) rfl ?_
      -- mq: at
      refine RW.move rfl rfl ?_
      refine RW.guardF rfl rfl rfl rfl ?_
      refine RW.guardF rfl rfl rfl rfl ?_
      refine RW.pickB rfl rfl rfl rfl ?_
      refine RW.move rfl rfl ?_
      refine RW.guardF rfl rfl rfl rfl ?_
      refine RW.guardF rfl rfl rfl rfl ?_
      refine RW.guardF rfl rfl rfl rfl ?_
      refine RW.guardF rfl rfl rfl rfl ?_
      refine RW.pickB rfl rfl rfl rfl ?_
      refine RW.nilChk rfl rfl ?_
      refine RW.fieldB fl68x1 rfl rfl ?_
      refine RW.store1 sc4 rfl rfl (by first | exact Upd.head | exact Upd.tail Upd.head | exact Upd.tail (Upd.tail Upd.head) | exact Upd.tail (Upd.tail (Upd.tail Upd.head)) | exact Upd.tail (Upd.tail (Upd.tail (Upd.tail Upd.head))) | exact Upd.tail (Upd.tail (Upd.tail (Upd.tail (Upd.tail Upd.head)))) | exact Upd.tail (Upd.tail (Upd.tail (Upd.tail (Upd.tail (Upd.tail Upd.head)))))) rfl (by first | exact Nat.le_of_ble_eq_true rfl | simp) ?_
      refine RW.nil (EX.seq (CW.seq (CW.region ?_)))
      refine RW.move rfl rfl ?_
      refine RW.assign rfl rfl ?_
      refine RW.nil (EX.seq (CW.ret ?_))
      refine EX.fin1 Tryd.results38 rfl (fun wz hw => ?_)
      -- mq: done
      refine RetU.of (v, true) ⟨fun _ => rfl, fun m hm => ?_⟩ hw
      obtain ⟨he, hi⟩ := numF_iff.1 hm
      have := atoi_itoa hi
      rw [he, hok] at this
      cases this
      rfl
    | false =>
      refine CW.region ?_
      refine RW.move rfl rfl ?_
      refine RW.move rfl rfl ?_
      refine RW.nilChk rfl rfl ?_
      refine RW.fieldB fl68x1 rfl rfl ?_
      refine RW.loadB1 sc4 rfl rfl (by first | exact Has.head | exact Has.tail Has.head | exact Has.tail (Has.tail Has.head) | exact Has.tail (Has.tail (Has.tail Has.head)) | exact Has.tail (Has.tail (Has.tail (Has.tail Has.head))) | exact Has.tail (Has.tail (Has.tail (Has.tail (Has.tail Has.head)))) | exact Has.tail (Has.tail (Has.tail (Has.tail (Has.tail (Has.tail Has.head)))))) rfl ?_
      refine RW.move rfl rfl ?_
      refine RW.guardT rfl rfl rfl ?_
      refine RW.move rfl rfl ?_
      refine RW.guardT rfl rfl rfl ?_
      refine RW.neqNilAt (by kernel_rfl) rfl rfl ?_
      refine RW.pickC rfl rfl rfl rfl ?_
      refine RW.move rfl rfl ?_
      refine RW.guardT rfl rfl rfl ?_
      refine RW.move rfl rfl ?_
      refine RW.guardT rfl rfl rfl ?_
      refine RW.call rfl caItoa rfl (fun w' hw' => itoa_c w' (hG.gl hw'.ext).1 v hn) ?_
      refine RW.guardT rfl rfl rfl ?_
      refine RW.move rfl rfl ?_
      refine RW.guardT rfl rfl rfl ?_
      refine RW.neqS rfl rfl rfl ?_
      refine RW.pickC rfl rfl rfl rfl ?_
      refine RW.nilChk rfl rfl ?_
      refine RW.fieldB fl68x1 rfl rfl ?_
      refine RW.store1 sc4 rfl rfl (by first | exact Upd.head | exact Upd.tail Upd.head | exact Upd.tail (Upd.tail Upd.head) | exact Upd.tail (Upd.tail (Upd.tail Upd.head)) | exact Upd.tail (Upd.tail (Upd.tail (Upd.tail Upd.head))) | exact Upd.tail (Upd.tail (Upd.tail (Upd.tail (Upd.tail Upd.head)))) | exact Upd.tail (Upd.tail (Upd.tail (Upd.tail (Upd.tail (Upd.tail Upd.head)))))) rfl (by first | exact Nat.le_of_ble_eq_true rfl | simp) ?_
      refine RW.nil (EX.seq (CW.seq (CW.region ?_)))
      refine RW.move rfl rfl ?_
      refine RW.assign rfl rfl ?_
      refine RW.nil (EX.seq (CW.ret ?_))
      refine EX.fin1 Tryd.results38 rfl (fun wz hw => ?_)
      -- mq: done
      refine RetU.of (v, decide (Lib.itoa v ≠ x)) ⟨fun hnn => ?_, fun m hm => ?_⟩ hw
      · rw [numF_ok hok] at hnn
        split at hnn
        · cases hnn
        · rename_i he; exact decide_eq_true he
      · obtain ⟨he, hi⟩ := numF_iff.1 hm
        have := atoi_itoa hi
        rw [he, hok] at this
        cases this
        rw [decide_eq_false (fun e => e he)]
  · skip
    have hno := numF_no (fun v hv => hx ⟨v, hv⟩)
    refine CW.region ?_
    refine RW.move rfl rfl ?_
    -- mq: at
    refine RW.callA (R := fun _ v _ => IsErr v) rfl caAto rfl (fun w' hw' => atoiNo_c w' (hG.gl hw'.ext).2 x hxl (fun v hv => hx ⟨v, hv⟩)) (fun w1 w2 v hw1 he12 hw2 hlt hv => ?_)
    obtain ⟨y, t, p, rfl⟩ := hv
    have hx12 := hw1.ext.trans0 he12
    have hcv := hw1.cov
    refine RW.move rfl rfl ?_
    refine RW.extract rfl rfl rfl ?_
    refine RW.extract rfl rfl rfl ?_
    refine RW.assign rfl rfl ?_
    refine RW.assign rfl rfl ?_
    refine RW.nil (EX.seq (CW.seq ?_))
    -- mq: region
    cases bad with
    | true =>
      refine CW.region ?_
      refine RW.move rfl rfl ?_
      refine RW.move rfl rfl ?_
      refine RW.nilChk rfl rfl ?_
      refine RW.fieldB fl68x1 rfl rfl ?_
      refine RW.loadB1 sc4 rfl rfl (by first | exact Has.head | exact Has.tail Has.head | exact Has.tail (Has.tail Has.head) | exact Has.tail (Has.tail (Has.tail Has.head)) | exact Has.tail (Has.tail (Has.tail (Has.tail Has.head))) | exact Has.tail (Has.tail (Has.tail (Has.tail (Has.tail Has.head)))) | exact Has.tail (Has.tail (Has.tail (Has.tail (Has.tail (Has.tail Has.head)))))) rfl ?_
      -- mq: at
      refine RW.move rfl rfl ?_
      refine RW.guardF rfl rfl rfl rfl ?_
      refine RW.guardF rfl rfl rfl rfl ?_
      refine RW.pickB rfl rfl rfl rfl ?_
      refine RW.move rfl rfl ?_
      refine RW.guardF rfl rfl rfl rfl ?_
      refine RW.guardF rfl rfl rfl rfl ?_
      refine RW.guardF rfl rfl rfl rfl ?_
      refine RW.guardF rfl rfl rfl rfl ?_
      refine RW.pickB rfl rfl rfl rfl ?_
      refine RW.nilChk rfl rfl ?_
      refine RW.fieldB fl68x1 rfl rfl ?_
      refine RW.store1 sc4 rfl rfl (by first | exact Upd.head | exact Upd.tail Upd.head | exact Upd.tail (Upd.tail Upd.head) | exact Upd.tail (Upd.tail (Upd.tail Upd.head)) | exact Upd.tail (Upd.tail (Upd.tail (Upd.tail Upd.head))) | exact Upd.tail (Upd.tail (Upd.tail (Upd.tail (Upd.tail Upd.head)))) | exact Upd.tail (Upd.tail (Upd.tail (Upd.tail (Upd.tail (Upd.tail Upd.head)))))) rfl (by first | exact Nat.le_of_ble_eq_true rfl | simp) ?_
      refine RW.nil (EX.seq (CW.seq (CW.region ?_)))
      refine RW.move rfl rfl ?_
      refine RW.assign rfl rfl ?_
      refine RW.nil (EX.seq (CW.ret ?_))
      refine EX.fin1 Tryd.results38 rfl (fun wz hw => ?_)
      -- mq: done
      exact RetU.of (y, true) ⟨fun _ => rfl, fun m hm => by rw [hno] at hm; cases hm⟩ (hw.unbase hx12 hcv)
    | false =>
      refine CW.region ?_
      refine RW.move rfl rfl ?_
      refine RW.move rfl rfl ?_
      refine RW.nilChk rfl rfl ?_
      refine RW.fieldB fl68x1 rfl rfl ?_
      refine RW.loadB1 sc4 rfl rfl (by first | exact Has.head | exact Has.tail Has.head | exact Has.tail (Has.tail Has.head) | exact Has.tail (Has.tail (Has.tail Has.head)) | exact Has.tail (Has.tail (Has.tail (Has.tail Has.head))) | exact Has.tail (Has.tail (Has.tail (Has.tail (Has.tail Has.head)))) | exact Has.tail (Has.tail (Has.tail (Has.tail (Has.tail (Has.tail Has.head)))))) rfl ?_
      refine RW.move rfl rfl ?_
      refine RW.guardT rfl rfl rfl ?_
      refine RW.move rfl rfl ?_
      refine RW.guardT rfl rfl rfl ?_
      refine RW.neqErr (by kernel_rfl) rfl rfl ?_
      refine RW.pickC rfl rfl rfl rfl ?_
      refine RW.move rfl rfl ?_
      refine RW.guardF rfl rfl rfl rfl ?_
      refine RW.guardF rfl rfl rfl rfl ?_
      refine RW.guardF rfl rfl rfl rfl ?_
      refine RW.guardF rfl rfl rfl rfl ?_
      refine RW.pickB rfl rfl rfl rfl ?_
      refine RW.nilChk rfl rfl ?_
      refine RW.fieldB fl68x1 rfl rfl ?_
      refine RW.store1 sc4 rfl rfl (by first | exact Upd.head | exact Upd.tail Upd.head | exact Upd.tail (Upd.tail Upd.head) | exact Upd.tail (Upd.tail (Upd.tail Upd.head)) | exact Upd.tail (Upd.tail (Upd.tail (Upd.tail Upd.head))) | exact Upd.tail (Upd.tail (Upd.tail (Upd.tail (Upd.tail Upd.head)))) | exact Upd.tail (Upd.tail (Upd.tail (Upd.tail (Upd.tail (Upd.tail Upd.head)))))) rfl (by first | exact Nat.le_of_ble_eq_true rfl | simp) ?_
      refine RW.nil (EX.seq (CW.seq (CW.region ?_)))
      refine RW.move rfl rfl ?_
      refine RW.assign rfl rfl ?_
      refine RW.nil (EX.seq (CW.ret ?_))
      refine EX.fin1 Tryd.results38 rfl (fun wz hw => ?_)
      -- mq: done
      exact RetU.of (y, true) ⟨fun _ => rfl, fun m hm => by rw [hno] at hm; cases hm⟩ (hw.unbase hx12 hcv)
end Go.Proofs.YtnkdabjahmjdoaaDoor.Mq
