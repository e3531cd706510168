/-
  ReplySettings: of any name, attribute and margins how they are set. For every input; the library tables of strconv and math/bits stand as the program text lays them (the card ties them).
-/
import Derived.Test.YtjplfonmdjnplaaDoorRows
import Derived.Test.YtjplfonmdjnplaaDoorCards
import Derived.Test.YtjplfonmdjnplaaDoorTie
import Derived.Test.YtjplfonmdjnplaaDoorRpOpen3
import Derived.LaidMore
import Derived.SevenTiedAt
import Derived.MakeChecks
namespace Go.Proofs.YtjplfonmdjnplaaDoor
open Go Go.RowKit Go.ChangeShapes Go.WideShapes Go.ChangeAt Go.Deep Go.Proofs

theorem replySettingsProved_own : ownKnob Tryd.prog.godebug = none := by kernel_rfl
theorem replySettingsProved_laid : laidOutB Tryd.prog = true := by kernel_rfl
set_option maxRecDepth 100000 in
theorem replySettingsProved_door (os : Os) (args : Array Value) : laidMetH Tryd.prog Rows.replySettingsRow.laid ((World.doorLaid Tryd.prog 400 os).forCall (fun _ _ => 0) ⟨#[], args, []⟩).memory :=
  laidMetH_of_parts3 (fuel := 8) (laidMet_of_run' 8 (by kernel_rfl) (by kernel_rfl)) (by kernel_rfl) (by kernel_rfl)
set_option maxRecDepth 100000 in
theorem replySettingsProved_lifted (os : Os) (started : os.Started) (H : Type) (enc : TypeId × Value → H) :
    ReturnsInHanded {} Tryd.checked os 5 .any (fun w args => (Rows.replySettingsSpec.pre enc Tryd.prog Tryd.f5 [] false w args ∧ laidMetH Tryd.prog Rows.replySettingsRow.laid w) ∧ sizedMet enc Tryd.prog Tryd.f5 (OpenSpec.ofChange Rows.replySettingsSpec) false w args) (Rows.replySettingsSpec.post enc Tryd.prog Tryd.f5 false true false false) := by
  refine returnsInHanded_of_change_and (C := Tryd.checked) (X := fun w _ => laidMetH Tryd.prog Rows.replySettingsRow.laid w) (fun _ _ _ hh h => h.of_heap hh) replySettingsProved_own started (by kernel_rfl) Tryd.func5
    (ChangeSpec.witness_shaped (enc := enc) (C := Tryd.checked) (os := os) (X := fun w _ => laidMetH Tryd.prog Rows.replySettingsRow.laid w) false (World.doorLaid Tryd.prog 400 os) #[.string ByteArray.empty, .agg #[.int .i64 0, .int .i64 0, .int .i64 0, .int .i64 0, .int .i64 0], .agg #[.int .i64 0, .int .i64 0]] 8 rfl (World.shaped_of_RefB (by kernel_rfl) (by kernel_rfl)) (by kernel_rfl) (by kernel_rfl) (by kernel_rfl) (replySettingsProved_door os _)) ?_
  intro W base args ds gs before hval0 hW hcnd hsz hL _
  have hval : ∀ (j : Nat) t v, Tryd.f5.params[j]? = some t → args[j]? = some v → Value.okWide Tryd.prog W .any base t v := hval0
  have hW' := hW
  obtain ⟨p, q, hA0, hV, rfl, hfz, hnd⟩ := hW
  have hA : DataW.TrodAll enc Tryd.prog W 0 (fun _ => true) true Tryd.f5.params.toList args.toList ds p := hA0
  rw [Tryd.params5] at hA hval hsz
  have hg := Mq.gl_of hL
  obtain ⟨v0, vs0, d0, ds0, p0, q0, hargs, rfl, rfl, h0, r0⟩ := trodAll_cons hA
  obtain ⟨v1, vs1, d1, ds1, p1, q1, rfl, rfl, rfl, h1, r1⟩ := trodAll_cons r0
  obtain ⟨v2, vs2, d2, ds2, p2, q2, rfl, rfl, rfl, h2, r2⟩ := trodAll_cons r1
  obtain ⟨rfl, rfl, rfl⟩ := trodAll_nil r2
  obtain rfl : args = #[v0, v1, v2] := by cases args; simp_all
  obtain ⟨rfl, rfl⟩ := trodVars_none hV
  have k0 := h0
  have lt0 : ∀ x ∈ p0, x.block < W.heap.size := by obtain ⟨m, hm⟩ := k0; exact DataW.trod_lt m _ _ _ hm
  obtain ⟨b0, rfl⟩ := okWide_string Tryd.underlying9 (hval 0 9 v0 rfl rfl)
  obtain ⟨a0, rfl⟩ : ∃ l : List UInt8, b0 = Mq.bs l := ⟨b0.data.toList, (Mq.bs_self _).symm⟩
  have w0 := Mq.size_of_str Tryd.underlying9 h0 (Mq.wt_of hsz (j := 0) rfl rfl)
  have k1 := h1
  have lt1 : ∀ x ∈ p1, x.block < W.heap.size := by obtain ⟨m, hm⟩ := k1; exact DataW.trod_lt m _ _ _ hm
  obtain ⟨a1, rfl, w1⟩ : ∃ a, v1 = .agg (Mq.EAt.enc a).toArray ∧ (-9223372036854775808 ≤ Mq.AtV.fl a ∧ Mq.AtV.fl a ≤ 9223372036854775807) := by
    obtain ⟨cs, rfl⟩ := Mq.okWide_agg (.inl ⟨_, Tryd.underlying32⟩) (hval 1 32 v1 rfl rfl)
    obtain ⟨fuel, hf⟩ := h1
    obtain ⟨a, ha, hw⟩ := Mq.at_of (Mq.trod_shp 5 _ _ _ _ _ (by kernel_rfl) hf (Mq.wt_of hsz (j := 1) rfl rfl))
    exact ⟨a, congrArg Value.agg (Mq.arr_of ha), hw⟩
  have k2 := h2
  have lt2 : ∀ x ∈ p2, x.block < W.heap.size := by obtain ⟨m, hm⟩ := k2; exact DataW.trod_lt m _ _ _ hm
  obtain ⟨a2, rfl, w2⟩ : ∃ a : Int × Int, v2 = .agg ([Value.int .i64 a.1, .int .i64 a.2]).toArray ∧ True := by
    obtain ⟨cs, rfl⟩ := Mq.okWide_agg (.inr ⟨_, _, Tryd.underlying33⟩) (hval 2 33 v2 rfl rfl)
    obtain ⟨fuel, hf⟩ := h2
    obtain ⟨a, ha, hw⟩ := Mq.i64x2_of (Mq.trod_shp 5 _ _ _ _ _ (by kernel_rfl) hf (Mq.wt_of hsz (j := 2) rfl rfl))
    exact ⟨a, congrArg Value.agg (Mq.arr_of ha), hw⟩
  clear hA0 hval0
  refine (Mq.settings_c W hg a0 a1 w1 a2.1 a2.2).mono fun e W' ⟨he, bel0⟩ => ?_
  have bel := bel0.below
  subst he
  exact ⟨_, rfl, _, _, _, [], _, [], hW', trodAll_mk1 (shut_bool Tryd.underlying4 _), (trodAll_cons_mk (Below.trod replySettingsProved_laid (by kernel_rfl) (of_decide_eq_true (by kernel_rfl)) k0 bel lt0) (trodAll_cons_mk (Below.trod replySettingsProved_laid (by kernel_rfl) (of_decide_eq_true (by kernel_rfl)) k1 bel lt1) (trodAll_cons_mk (Below.trod replySettingsProved_laid (by kernel_rfl) (of_decide_eq_true (by kernel_rfl)) k2 bel lt2) trodAll_mk0))), rfl, bel.frame _, fun h => by cases h⟩
theorem replySettingsProved_said : Rows.ReplySettingsSaid :=
  OpenClaim.holds_of_wide 5 Tryd.f5 rfl rfl rfl rfl rfl rfl rfl ⟨rfl, rfl, rfl, rfl, rfl⟩ rfl rfl rfl rfl rfl (by kernel_rfl) Tryd.func5 (by kernel_rfl)
    (of_decide_eq_true (by kernel_rfl)) (by unfold Func.isWrapper; first | (rw [if_pos (by decide +kernel)]; kernel_rfl) | (rw [if_neg (by decide +kernel)]; exact ⟨rfl, rfl⟩))
    (fun os started H enc _ => replySettingsProved_lifted os started H enc)
theorem replySettingsProved : Rows.ReplySettingsCardSaid :=
  Claim7.holds_tied_plain_at .later [] [.data, .data, .data] true (true, "6e66989fe27b1c46d5b19e2fe14d016d8583b611cbddddd747c581e0dc50c4a2") false
    replySettingsProved_said (fun _ h => by cases h) (by kernel_rfl) (fun _ h => by cases h) replySettings_row_tie rfl ⟨rfl, rfl⟩ (by kernel_rfl) rfl
    (fun f fn hf hfn => by
      obtain rfl : f = 5 := Option.some.inj ((show Tryd.prog.funcNamed "marquee/marqueelaw15.ReplySettings" = some 5 by kernel_rfl).symm.trans hf) |>.symm
      obtain rfl : fn = Tryd.f5 := (Option.some.inj (Tryd.func5.symm.trans hfn)).symm
      exact ⟨by kernel_rfl, fun j t ht => by
        rw [Tryd.params5] at ht
        have hm : t ∈ [9, 32, 33] := by simpa using Array.mem_of_getElem? ht
        have hall : ([9, 32, 33].all fun u => !Tryd.prog.wantsStandIn u) = true := by kernel_rfl
        exact (show Tryd.prog.wantsStandIn t = false by simpa using List.all_eq_true.1 hall t hm)⟩)
    (by kernel_rfl)
end Go.Proofs.YtjplfonmdjnplaaDoor
