/-
  TabsPlays: whatever is set and cleared, of however many columns, the stops are those of the document. For every input; the library table of math/bits stands as the program text lays it (the card ties it).
-/
import Derived.Test.YthfbdbahggklnaaDoorRows
import Derived.Test.YthfbdbahggklnaaDoorCards
import Derived.Test.YthfbdbahggklnaaDoorTie
import Derived.Test.YthfbdbahggklnaaDoorTbOpen
import Derived.LaidMore
import Derived.SevenTiedAt
import Derived.MakeChecks
namespace Go.Proofs.YthfbdbahggklnaaDoor
open Go Go.RowKit Go.ChangeShapes Go.WideShapes Go.ChangeAt Go.Deep Go.Proofs

theorem tabsPlaysProved_own : ownKnob Tryd.prog.godebug = none := by kernel_rfl
theorem tabsPlaysProved_laid : laidOutB Tryd.prog = true := by kernel_rfl
set_option maxRecDepth 100000 in
theorem tabsPlaysProved_door (os : Os) (args : Array Value) : laidMetH Tryd.prog Rows.tabsPlaysRow.laid ((World.doorLaid Tryd.prog 400 os).forCall (fun _ _ => 0) ⟨#[], args, []⟩).memory :=
  laidMetH_of_parts3 (fuel := 8) (laidMet_of_run' 8 (by kernel_rfl) (by kernel_rfl)) (by kernel_rfl) (by kernel_rfl)
set_option maxRecDepth 100000 in
theorem tabsPlaysProved_lifted (os : Os) (started : os.Started) (H : Type) (enc : TypeId × Value → H) :
    ReturnsInHanded {} Tryd.checked os 4 .any (fun w args => (Rows.tabsPlaysSpec.pre enc Tryd.prog Tryd.f4 [] false w args ∧ laidMetH Tryd.prog Rows.tabsPlaysRow.laid w) ∧ sizedMet enc Tryd.prog Tryd.f4 (OpenSpec.ofChange Rows.tabsPlaysSpec) false w args) (Rows.tabsPlaysSpec.post enc Tryd.prog Tryd.f4 false true false false) := by
  refine returnsInHanded_of_change_and (C := Tryd.checked) (X := fun w _ => laidMetH Tryd.prog Rows.tabsPlaysRow.laid w) (fun _ _ _ hh h => h.of_heap hh) tabsPlaysProved_own started (by kernel_rfl) Tryd.func4
    (ChangeSpec.witness_shaped (enc := enc) (C := Tryd.checked) (os := os) (X := fun w _ => laidMetH Tryd.prog Rows.tabsPlaysRow.laid w) false (World.doorLaid Tryd.prog 400 os) #[.int .u16 0, .slice none 0 0] 8 rfl (World.shaped_of_RefB (by kernel_rfl) (by kernel_rfl)) (by kernel_rfl) (by kernel_rfl) (by kernel_rfl) (tabsPlaysProved_door os _)) ?_
  intro W base args ds gs before hval0 hW hcnd hsz hL _
  have hval : ∀ (j : Nat) t v, Tryd.f4.params[j]? = some t → args[j]? = some v → Value.okWide Tryd.prog W .any base t v := hval0
  have hW' := hW
  obtain ⟨p, q, hA0, hV, rfl, hfz, hnd⟩ := hW
  have hA : DataW.TrodAll enc Tryd.prog W 0 (fun _ => true) true Tryd.f4.params.toList args.toList ds p := hA0
  rw [Tryd.params4] at hA hval hsz
  have hg := Mq.gl_of hL
  obtain ⟨v0, vs0, d0, ds0, p0, q0, hargs, rfl, rfl, h0, r0⟩ := trodAll_cons hA
  obtain ⟨v1, vs1, d1, ds1, p1, q1, rfl, rfl, rfl, h1, r1⟩ := trodAll_cons r0
  obtain ⟨rfl, rfl, rfl⟩ := trodAll_nil r1
  obtain rfl : args = #[v0, v1] := by cases args; simp_all
  obtain ⟨rfl, rfl⟩ := trodVars_none hV
  have k0 := h0
  have lt0 : ∀ x ∈ p0, x.block < W.heap.size := by obtain ⟨m, hm⟩ := k0; exact DataW.trod_lt m _ _ _ hm
  obtain ⟨b0, rfl⟩ := okWide_int Tryd.underlying22 (hval 0 22 v0 rfl rfl)
  obtain ⟨a0, rfl, w0⟩ := Mq.u16_of (Mq.wf_of_int Tryd.underlying22 h0)
  have k1 := h1
  have lt1 : ∀ x ∈ p1, x.block < W.heap.size := by obtain ⟨m, hm⟩ := k1; exact DataW.trod_lt m _ _ _ hm
  obtain ⟨a1, n1, c1, rfl⟩ := okWide_slice Tryd.underlying33 (hval 1 33 v1 rfl rfl)
  obtain ⟨l1, w1⟩ : ∃ l, Mq.Rd Mq.EOpT W (fun k => k < W.heap.size) a1 n1 c1 l ∧ n1 ≤ reachBytes ∧ ∀ a ∈ l, (-9223372036854775808 ≤ a.kind ∧ a.kind ≤ 9223372036854775807) ∧ -9223372036854775808 ≤ a.x ∧ a.x ≤ 9223372036854775807 := by
    obtain ⟨fuel, hf⟩ := h1
    exact Mq.openOps hf (Mq.wt_of hsz (j := 1) rfl rfl)
  clear hA0 hval0
  refine (Mq.lawPlays_c W hg a0 w0 _ a1 n1 c1 l1 w1.1 w1.2.1 w1.2.2).mono fun e W' ⟨he, bel0⟩ => ?_
  have bel := bel0.below
  subst he
  exact ⟨_, rfl, _, _, _, [], _, [], hW', trodAll_mk1 (shut_bool Tryd.underlying4 _), (trodAll_cons_mk (Below.trod tabsPlaysProved_laid (by kernel_rfl) (of_decide_eq_true (by kernel_rfl)) k0 bel lt0) (trodAll_cons_mk (Below.trod tabsPlaysProved_laid (by kernel_rfl) (of_decide_eq_true (by kernel_rfl)) k1 bel lt1) trodAll_mk0)), rfl, bel.frame _, fun h => by cases h⟩
theorem tabsPlaysProved_said : Rows.TabsPlaysSaid :=
  OpenClaim.holds_of_wide 4 Tryd.f4 rfl rfl rfl rfl rfl rfl rfl ⟨rfl, rfl, rfl, rfl, rfl⟩ rfl rfl rfl rfl rfl (by kernel_rfl) Tryd.func4 (by kernel_rfl)
    (of_decide_eq_true (by kernel_rfl)) (by unfold Func.isWrapper; first | (rw [if_pos (by decide +kernel)]; kernel_rfl) | (rw [if_neg (by decide +kernel)]; exact ⟨rfl, rfl⟩))
    (fun os started H enc _ => tabsPlaysProved_lifted os started H enc)
theorem tabsPlaysProved : Rows.TabsPlaysCardSaid :=
  Claim7.holds_tied_plain_at .later [] [.data] true (true, "61318a74a0afbbec09a38318ba2c956ce25d79bb808ade5bd6edd39f94bc4152") false
    tabsPlaysProved_said (fun _ h => by cases h) (by kernel_rfl) (fun _ h => by cases h) tabsPlays_row_tie rfl ⟨rfl, rfl⟩ (by kernel_rfl) rfl
    (fun f fn hf hfn => by
      obtain rfl : f = 4 := Option.some.inj ((show Tryd.prog.funcNamed "marquee/marqueelaw11.TabsPlays" = some 4 by kernel_rfl).symm.trans hf) |>.symm
      obtain rfl : fn = Tryd.f4 := (Option.some.inj (Tryd.func4.symm.trans hfn)).symm
      exact ⟨by kernel_rfl, fun j t ht => by
        rw [Tryd.params4] at ht
        have hm : t ∈ [22, 33] := by simpa using Array.mem_of_getElem? ht
        have hall : ([22, 33].all fun u => !Tryd.prog.wantsStandIn u) = true := by kernel_rfl
        exact (show Tryd.prog.wantsStandIn t = false by simpa using List.all_eq_true.1 hall t hm)⟩)
    (by kernel_rfl)
end Go.Proofs.YthfbdbahggklnaaDoor
