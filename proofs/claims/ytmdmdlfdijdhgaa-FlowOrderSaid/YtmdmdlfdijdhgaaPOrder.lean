/-
  FlowOrder: places of any rows stay in their order, whatever the width is. For every input.
-/
import Derived.Test.YtmdmdlfdijdhgaaRows
import Derived.Test.YtmdmdlfdijdhgaaOpen
import Derived.Test.YtmdmdlfdijdhgaaOrderW
namespace Go.Proofs.Ytmdmdlfdijdhgaa
open Go Go.RowKit Go.ChangeShapes Go.WideShapes Go.ChangeAt Go.Deep Go.Proofs

theorem flowOrderProved_own : ownKnob Try.prog.godebug = none := by kernel_rfl
theorem flowOrderProved_laid : laidOutB Try.prog = true := by kernel_rfl
set_option maxRecDepth 100000 in
theorem flowOrderProved_lifted (os : Os) (started : os.Started) (H : Type) (enc : TypeId × Value → H) :
    ReturnsInHanded {} Try.checked os 9 .any (Rows.flowOrderSpec.pre6 enc Try.prog Try.f9 Rows.flowOrderRow.domain false) (Rows.flowOrderSpec.post enc Try.prog Try.f9 false true false false) := by
  refine returnsInHanded_of_change_sized (C := Try.checked) flowOrderProved_own started (by kernel_rfl) Try.func9
    (ChangeSpec.witness6 (enc := enc) (C := Try.checked) false ⟨#[], #[.slice none 0 0, .int .u16 0, .agg #[.int .i64 0, .int .i64 0, .int .i64 0, .int .i64 0]], []⟩ 8 (by kernel_rfl) (by kernel_rfl) (by kernel_rfl) (by kernel_rfl)) ?_
  intro W base args ds gs before hval0 hW hcnd hsz _
  have hval : ∀ (j : Nat) t v, Try.f9.params[j]? = some t → args[j]? = some v → Value.okWide Try.prog W .any base t v := hval0
  have hW' := hW
  obtain ⟨p, q, hA0, hV, rfl, hfz, hnd⟩ := hW
  have hA : DataW.TrodAll enc Try.prog W 0 (fun _ => true) true Try.f9.params.toList args.toList ds p := hA0
  rw [Try.params9] at hA hval hsz
  obtain ⟨v0, vs0, d0, ds0, p0, q0, hargs, rfl, rfl, h0, r0⟩ := trodAll_cons hA
  obtain ⟨v1, vs1, d1, ds1, p1, q1, rfl, rfl, rfl, h1, r1⟩ := trodAll_cons r0
  obtain ⟨v2, vs2, d2, ds2, p2, q2, rfl, rfl, rfl, h2, r2⟩ := trodAll_cons r1
  obtain ⟨rfl, rfl, rfl⟩ := trodAll_nil r2
  obtain rfl : args = #[v0, v1, v2] := by cases args; simp_all
  obtain ⟨rfl, rfl⟩ := trodVars_none hV
  have k0 := h0
  have lt0 : ∀ x ∈ p0, x.block < W.heap.size := by obtain ⟨m, hm⟩ := k0; exact DataW.trod_lt m _ _ _ hm
  obtain ⟨a0, n0, c0, rfl⟩ := okWide_slice Try.underlying24 (hval 0 24 v0 rfl rfl)
  obtain ⟨l0, w0⟩ : ∃ l, Mq.RdRows W (fun k => k < W.heap.size) a0 n0 c0 l ∧ n0 ≤ reachBytes ∧ ∀ row ∈ l, row.1.length ≤ reachBytes := by
    obtain ⟨fuel, hf⟩ := h0
    exact Mq.openRows hf (Mq.wt_of hsz (j := 0) rfl rfl)
  have k1 := h1
  have lt1 : ∀ x ∈ p1, x.block < W.heap.size := by obtain ⟨m, hm⟩ := k1; exact DataW.trod_lt m _ _ _ hm
  obtain ⟨b1, rfl⟩ := okWide_int Try.underlying57 (hval 1 57 v1 rfl rfl)
  obtain ⟨a1, rfl, w1⟩ := Mq.u16_of (Mq.wf_of_int Try.underlying57 h1)
  have k2 := h2
  have lt2 : ∀ x ∈ p2, x.block < W.heap.size := by obtain ⟨m, hm⟩ := k2; exact DataW.trod_lt m _ _ _ hm
  obtain ⟨a2, rfl, w2⟩ : ∃ a : Mq.PosV × Mq.PosV, v2 = .agg ([Value.int .i64 (Mq.PosV.row a.1), .int .i64 (Mq.PosV.col a.1), .int .i64 (Mq.PosV.row a.2), .int .i64 (Mq.PosV.col a.2)]).toArray ∧ Mq.Pos64 a.1 ∧ Mq.Pos64 a.2 := by
    obtain ⟨cs, rfl⟩ := Mq.okWide_agg (.inr ⟨_, _, Try.underlying59⟩) (hval 2 59 v2 rfl rfl)
    obtain ⟨fuel, hf⟩ := h2
    obtain ⟨a, ha, hw⟩ := Mq.pos2_of (Mq.trod_shp 5 _ _ _ _ _ (by kernel_rfl) hf (Mq.wt_of hsz (j := 2) rfl rfl))
    exact ⟨a, congrArg Value.agg (Mq.arr_of ha), hw⟩
  clear hA0 hval0
  refine (Mq.order_c W _ a0 n0 c0 l0 w0.1 w0.2.1 w0.2.2 a1 w1 a2.1 a2.2 w2.1 w2.2).mono fun e W' ⟨he, bel0⟩ => ?_
  have bel := bel0.below
  subst he
  exact ⟨_, rfl, _, _, _, [], _, [], hW', trodAll_mk1 (shut_bool Try.underlying4 _), (trodAll_cons_mk (Below.trod flowOrderProved_laid (by kernel_rfl) (of_decide_eq_true (by kernel_rfl)) k0 bel lt0) (trodAll_cons_mk (Below.trod flowOrderProved_laid (by kernel_rfl) (of_decide_eq_true (by kernel_rfl)) k1 bel lt1) (trodAll_cons_mk (Below.trod flowOrderProved_laid (by kernel_rfl) (of_decide_eq_true (by kernel_rfl)) k2 bel lt2) trodAll_mk0))), rfl, bel.frame _, fun h => by cases h⟩
theorem flowOrderProved : Rows.FlowOrderSaid :=
  OpenClaim.holds_of_wide 9 Try.f9 rfl rfl rfl rfl rfl rfl rfl ⟨rfl, rfl, rfl, rfl, rfl⟩ rfl rfl rfl rfl rfl (by kernel_rfl) Try.func9 (by kernel_rfl)
    (of_decide_eq_true (by kernel_rfl)) (by unfold Func.isWrapper; first | (rw [if_pos (by decide +kernel)]; kernel_rfl) | (rw [if_neg (by decide +kernel)]; exact ⟨rfl, rfl⟩))
    (fun os started H enc _ => flowOrderProved_lifted os started H enc)
end Go.Proofs.Ytmdmdlfdijdhgaa
