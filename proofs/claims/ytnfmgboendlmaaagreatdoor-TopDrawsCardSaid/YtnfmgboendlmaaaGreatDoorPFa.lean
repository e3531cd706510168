/-
  TopDraws: whatever steps are done, the rows that are seen, drawn on a fresh terminal of their size, are there; from what was seen before, if that was as great, they come by the bytes of the change. For every input; the library tables and error values stand as the program text lays them (the card ties them).
-/
import Derived.Test.YtnfmgboendlmaaaGreatDoorQ45
import Derived.Test.YtnfmgboendlmaaaGreatDoorRows
import Derived.Test.YtnfmgboendlmaaaGreatDoorCards
import Derived.Test.YtnfmgboendlmaaaGreatDoorTie
import Derived.LaidMore
import Derived.SevenTiedAt
import Derived.MakeChecks
import Derived.Lay
namespace Go.Proofs.YtnfmgboendlmaaaGreatDoor
open Go Go.RowKit Go.ChangeShapes Go.WideShapes Go.ChangeAt Go.Deep Go.Proofs

theorem topDrawsProved_own : ownKnob Tryz.prog.godebug = none := by kernel_rfl
theorem topDrawsProved_laid : laidOutB Tryz.prog = true := by kernel_rfl
set_option maxRecDepth 100000 in
theorem topDrawsProved_lifted (os : Os) (started : os.Started) (H : Type) (enc : TypeId × Value → H) :
    ReturnsInHanded {} Tryz.checked os 3 .any (fun w args => (Rows.topDrawsSpec.pre enc Tryz.prog Tryz.f3 [] false w args ∧ laidMetH Tryz.prog Rows.topDrawsRow.laid w) ∧ sizedMet enc Tryz.prog Tryz.f3 (OpenSpec.ofChange Rows.topDrawsSpec) false w args) (Rows.topDrawsSpec.post enc Tryz.prog Tryz.f3 false true false false) := by
  refine Mq.Os.handed_and_shaped (C := Tryz.checked) (X := fun w _ => laidMetH Tryz.prog Rows.topDrawsRow.laid w) (fun _ _ _ hh h => h.of_heap hh) topDrawsProved_own started (by kernel_rfl) Tryz.func3
    (ChangeSpec.witness_shaped (enc := enc) (C := Tryz.checked) (os := os) (X := fun w _ => laidMetH Tryz.prog Rows.topDrawsRow.laid w) false (World.laidAll Tryz.prog os Rows.topDrawsRow.laid) #[.agg #[.int .u8 0, .int .u8 0, .int .u8 0, .int .u8 0, .int .u8 0], .slice none 0 0] 8 (World.laidAll_os _ _ _)
      (World.shaped_of_ZipB (by kernel_rfl) (by kernel_rfl)) (by kernel_rfl) (by kernel_rfl) (by kernel_rfl)
      (by rw [MakeChecks.laidMetH_plain _ _ _ (by kernel_rfl)]; exact laidMet_laidAll _ (by kernel_rfl) (by kernel_rfl))) ?_
  intro W base args ds gs before hval0 hW hcnd hsz hL hsh
  have hval : ∀ (j : Nat) t v, Tryz.f3.params[j]? = some t → args[j]? = some v → Value.okWide Tryz.prog W .any base t v := hval0
  have hW' := hW
  obtain ⟨p, q, hA0, hV, rfl, hfz, hnd⟩ := hW
  have hA : DataW.TrodAll enc Tryz.prog W 0 (fun _ => true) true Tryz.f3.params.toList args.toList ds p := hA0
  rw [Tryz.params3] at hA hval hsz
  have hg := Mq.st0_of hL hsh
  obtain ⟨v0, vs0, d0, ds0, p0, q0, hargs, rfl, rfl, h0, r0⟩ := trodAll_cons hA
  obtain ⟨v1, vs1, d1, ds1, p1, q1, rfl, rfl, rfl, h1, r1⟩ := trodAll_cons r0
  obtain ⟨rfl, rfl, rfl⟩ := trodAll_nil r1
  obtain rfl : args = #[v0, v1] := by cases args; simp_all
  obtain ⟨rfl, rfl⟩ := trodVars_none hV
  have k0 := h0
  have lt0 : ∀ x ∈ p0, x.block < W.heap.size := by obtain ⟨m, hm⟩ := k0; exact DataW.trod_lt m _ _ _ hm
  obtain ⟨a0, rfl, w0⟩ : ∃ a : Mq.SzV, v0 = .agg (Mq.SzV.enc a).toArray ∧ Mq.SzV.Wf a := by
    obtain ⟨cs, rfl⟩ := Mq.okWide_agg (.inl ⟨_, Tryz.underlying23⟩) (hval 0 23 v0 rfl rfl)
    obtain ⟨fuel, hf⟩ := h0
    obtain ⟨a, ha, hw⟩ := Mq.sz_of (Mq.trod_shp 5 _ _ _ _ _ (by kernel_rfl) hf (Mq.wt_of hsz (j := 0) rfl rfl))
    exact ⟨a, congrArg Value.agg (Mq.arr_of ha), hw⟩
  have k1 := h1
  have lt1 : ∀ x ∈ p1, x.block < W.heap.size := by obtain ⟨m, hm⟩ := k1; exact DataW.trod_lt m _ _ _ hm
  obtain ⟨a1, n1, c1, rfl⟩ := okWide_slice Tryz.underlying24 (hval 1 24 v1 rfl rfl)
  obtain ⟨l1, w1⟩ : ∃ l, Mq.Rd Mq.EStep W (fun k => k < W.heap.size) a1 n1 c1 l ∧ n1 ≤ reachBytes ∧ ∀ a ∈ l, Mq.StepV.Wf a := by
    obtain ⟨fuel, hf⟩ := h1
    exact Mq.openSts hf (Mq.wt_of hsz (j := 1) rfl rfl)
  clear hA0 hval0
  refine (Mq.draws_p W hg a0 w0 a1 n1 c1 l1 w1.1 w1.2.2).mono fun e W' ⟨he, bel0⟩ => ?_
  have bel := bel0.below
  subst he
  exact ⟨_, rfl, _, _, _, [], _, [], hW', trodAll_mk1 (shut_bool Tryz.underlying4 _), (trodAll_cons_mk (Below.trod topDrawsProved_laid (by kernel_rfl) (of_decide_eq_true (by kernel_rfl)) k0 bel lt0) (trodAll_cons_mk (Below.trod topDrawsProved_laid (by kernel_rfl) (of_decide_eq_true (by kernel_rfl)) k1 bel lt1) trodAll_mk0)), rfl, bel.frame _, fun h => by cases h⟩
end Go.Proofs.YtnfmgboendlmaaaGreatDoor
