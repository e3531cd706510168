/- walks: the closures of Parse, Parse -/
import Derived.Test.YtjplfonmdjnplaaDoorPm2
namespace Go.Proofs.YtjplfonmdjnplaaDoor.Mq
open Go Go.RowKit Go.Proofs

def EInt : Enc Int := ⟨fun x => [.int .i64 x], 1, fun _ => rfl, fun _ => by repeat (first | exact Ones.nil | refine Ones.cons rfl ?_)⟩
structure SlV where
  A : Option Addr
  n : Nat
  c : Nat
def ESl : Enc SlV := ⟨fun s => [.slice s.A s.n s.c], 1, fun _ => rfl, fun _ => by repeat (first | exact Ones.nil | refine Ones.cons rfl ?_)⟩
theorem RW.exH {P : Program} {n : Nat} {ops : Array Oper} {Q : Post} {rest : List Oper} {l : Fr} {ι : Type} {H : ι → World → Prop} (h : ∀ i, RW P n ops Q rest l (H i)) : RW P n ops Q rest l (fun w => ∃ i, H i w) :=
  fun w ⟨i, hw⟩ a ha => h i w hw a ha
theorem RW.each {P : Program} {n : Nat} {ops : Array Oper} {Q : Post} {rest : List Oper} {l : Fr} {H : World → Prop} (h : ∀ w, H w → RW P n ops Q rest l (fun x => x = w)) : RW P n ops Q rest l H :=
  fun w hw a ha => h w hw w rfl a ha
theorem CW.exH {P : Program} {n : Nat} {c : Code} {Q : Post} {l : Fr} {ι : Type} {H : ι → World → Prop} (h : ∀ i, CW P n c Q l (H i)) : CW P n c Q l (fun w => ∃ i, H i w) :=
  fun w ⟨i, hw⟩ a ha => h i w hw a ha
theorem parse11_c (b : World) (S : List Nat) (cs : List Chunk) (gl : Nat) (v : Value) (L : List Int) (part : List UInt8) (hp : part.length ≤ 1000000) (hL : L.length ≤ 1000) (w : World)
    (hw0 : SH b S (blk gl [v] 44 :: own 3 1 v L.length (EInt.all L) :: cs) w) :
    Calls Tryd.prog 44 [.string (bs part), .pointer (some ⟨gl, 0, none⟩)].toArray w (fun e w' => e = .returned (.tuple #[]) ∧ ∃ v', SH b S (blk gl [v'] 44 :: own 3 1 v' (L ++ [valF part]).length (EInt.all (L ++ [valF part])) :: cs) w') := by
  refine calls (n := 8) Tryd.func44 rfl Tryd.ntmps44 rfl ?_
  refine CW.sub (H' := SH b S (blk gl [v] 44 :: own 3 1 v L.length (EInt.all L) :: cs)) ?_ (Sub.refl _) (fun x hx => hx ▸ hw0)
  -- mq: region
  refine CW.drawS [true, true, true, false, false, false] 1 (SH b S (blk gl [v] 44 :: own 3 1 v L.length (EInt.all L) :: cs)) mixed (by kernel_rfl) (fun _ hw => hw.drew) (fun _ h => by first | exact h | (have h1 := h.rem Rem.head; first | exact h1 | (have h2 := h1.rem Rem.head; first | exact h2 | (have h3 := h2.rem Rem.head; exact h3)))) (by repeat (first | exact NoP.fin | exact NoP.jn | refine NoP.sq ?_ | refine NoP.bk ?_ | refine NoP.lp ?_)) ?_
  refine QuW.cons rfl (fun wq hq => (RW.load1 sc44 rfl rfl (fun w1 e1 => by subst e1; exact hq.blk_cell (by first | exact Has.head | exact Has.tail Has.head | exact Has.tail (Has.tail Has.head) | exact Has.tail (Has.tail (Has.tail Has.head)) | exact Has.tail (Has.tail (Has.tail (Has.tail Has.head))) | exact Has.tail (Has.tail (Has.tail (Has.tail (Has.tail Has.head)))) | exact Has.tail (Has.tail (Has.tail (Has.tail (Has.tail (Has.tail Has.head)))))) rfl) RW.jn)) ?_
  refine QuW.cons rfl (fun wq hq => (RW.move rfl rfl RW.jn)) ?_
  refine QuW.cons rfl (fun wq hq => (RW.callP rfl ca45 rfl (fun w' _ => value_c w' part hp) RW.jn)) ?_
  refine QuW.skip ?_
  refine QuW.skip ?_
  refine QuW.skip ?_
  refine QuW.nil ?_
  refine SpW.soft ?_
  refine RW.buildSlc sl44 rfl rfl rfl rfl (fun g6 hg6 hf6 => ?_)
  refine RW.sp1 (fun _ h => by first | exact h | (have h1 := h.rem Rem.head; first | exact h1 | (have h2 := h1.rem Rem.head; first | exact h2 | (have h3 := h2.rem Rem.head; exact h3)))) ?_
  refine SpW.hard ?_
  refine RW.append1 sl44 rfl rfl rfl (by first | exact Rem.head | exact Rem.tail Rem.head | exact Rem.tail (Rem.tail Rem.head) | exact Rem.tail (Rem.tail (Rem.tail Rem.head)) | exact Rem.tail (Rem.tail (Rem.tail (Rem.tail Rem.head))) | exact Rem.tail (Rem.tail (Rem.tail (Rem.tail (Rem.tail Rem.head)))) | exact Rem.tail (Rem.tail (Rem.tail (Rem.tail (Rem.tail (Rem.tail Rem.head)))))) (fun _ => by first | exact Upd.head | exact Upd.tail Upd.head | exact Upd.tail (Upd.tail Upd.head) | exact Upd.tail (Upd.tail (Upd.tail Upd.head)) | exact Upd.tail (Upd.tail (Upd.tail (Upd.tail Upd.head))) | exact Upd.tail (Upd.tail (Upd.tail (Upd.tail (Upd.tail Upd.head)))) | exact Upd.tail (Upd.tail (Upd.tail (Upd.tail (Upd.tail (Upd.tail Upd.head)))))) rfl (by repeat (first | exact Ones.nil | exact Enc.ones _ _ | refine Ones.cons rfl ?_)) (by simp only [maxLen]; omega) (by omega) (fun v7 hv7 => ?_)
  -- mq: at
  refine RW.formOwn (v := v7) (Has.tail Has.head) (fun A7 c7 hv70 hcap7 hmax7 hlen7 hg7 => ?_)
  subst hv70
  refine RW.store1 sc44 rfl rfl (by first | exact Upd.head | exact Upd.tail Upd.head | exact Upd.tail (Upd.tail Upd.head) | exact Upd.tail (Upd.tail (Upd.tail Upd.head)) | exact Upd.tail (Upd.tail (Upd.tail (Upd.tail Upd.head))) | exact Upd.tail (Upd.tail (Upd.tail (Upd.tail (Upd.tail Upd.head)))) | exact Upd.tail (Upd.tail (Upd.tail (Upd.tail (Upd.tail (Upd.tail Upd.head)))))) rfl (by first | exact Nat.le_of_ble_eq_true rfl | simp) ?_
  refine RW.nil ?_
  refine EX.fin0N Tryd.results44 (fun wz hw => ?_)
  -- mq: done
  refine ⟨rfl, .slice A7 (L.length + 1) c7, ?_⟩
  rw [List.length_append, Enc.all_snoc EInt]
  exact hw
/-- groups that lie in owned rows -/
def RdG (w : World) (F : Nat → Prop) (A : Option Addr) (n c : Nat) (gs : List (List Int)) : Prop :=
  ∃ ss : List SlV, Rd ESl w F A n c ss ∧ ss.length = gs.length ∧ ∀ (k : Nat) (s : SlV) (g : List Int), ss[k]? = some s → gs[k]? = some g → Rd EInt w F s.A s.n s.c g
abbrev chunksG (go : Nat) (vo : Value) (ss : List SlV) : List Chunk := [blk go [vo] 36, own 44 1 vo ss.length (ESl.all ss)]
def StP (w : World) (go : Nat) (gs : List (List Int)) (w' : World) : Prop :=
  ∃ vo ss, SH w' (feet (chunksG go vo ss)) (chunksG go vo ss) w' ∧ Ext [] w w' ∧ (∀ k ∈ feet (chunksG go vo ss), w.heap.size ≤ k) ∧ ss.length = gs.length ∧
    ∀ (k : Nat) (s : SlV) (g : List Int), ss[k]? = some s → gs[k]? = some g → Rd EInt w' (fun k => w.heap.size ≤ k ∧ k ∉ feet (chunksG go vo ss)) s.A s.n s.c g
theorem StP.ext {w w1 w2 : World} {go : Nat} {gs : List (List Int)} (h : StP w go gs w1) (hx : Ext [] w1 w2) : StP w go gs w2 := by
  obtain ⟨vo, ss, h1, h2, h3, h4, h5⟩ := h
  exact ⟨vo, ss, (h1.keep hx).rebase, h2.trans0 hx, h3, h4, fun k s g hs hg => (h5 k s g hs hg).ext hx (by simp)⟩
theorem parse1_c (w : World) (go : Nat) (gs : List (List Int)) (part : List UInt8) (hp : part.length ≤ 1000000) (hgs : gs.length ≤ 1000) (w1 : World) (hst : StP w go gs w1) :
    Calls Tryd.prog 43 [.string (bs part), .pointer (some ⟨go, 0, none⟩)].toArray w1 (fun e w' => e = .returned (.tuple #[]) ∧ StP w go (gs ++ [groupF part]) w') := by
  obtain ⟨vo, ss, h1, h2, h3, h4, h5⟩ := hst
  have hplen := partsL_length 58 8 part
  refine calls (n := 11) Tryd.func43 rfl Tryd.ntmps43 rfl ?_
  refine CW.sub (H' := SH w1 (feet (chunksG go vo ss)) (chunksG go vo ss)) ?_ (Sub.refl _) (fun x hx => hx ▸ h1)
  generalize hS : feet (chunksG go vo ss) = S at *
  refine CW.seq (CW.region ?_)
  refine RW.alloc1 sc44 rfl (fun g3 hg3 hf3 => ?_)
  refine RW.nil (EX.seq (CW.seq (CW.region ?_)))
  refine RW.move rfl rfl ?_
  -- mq: op 1: ('Op.makeFunc', ('Fn.func', '44'), ('arr',), ('arr', ('Operand.tmp', '3'))) -> slot 5 ("param.go:51")
  refine RW.makeFunc rfl rfl rfl ?_
  refine RW.ownNil 3 1 ?_
  refine RW.callI (v := .tuple #[]) (H' := fun w' => ∃ v, SH w1 S (blk g3 [v] 44 :: own 3 1 v (groupF part).length (EInt.all (groupF part)) :: chunksG go vo ss) w') rfl ca42 rfl (fun w' hw' => ?_) ?_
  · refine each_c w' 44 #[.pointer (some ⟨g3, 0, none⟩)] ca44 (fun ps w' => ∃ v, SH w1 S (blk g3 [v] 44 :: own 3 1 v (List.map valF ps).length (EInt.all (List.map valF ps)) :: chunksG go vo ss) w') part hp 8 (by decide) ?_ ?_ 58 ⟨.slice none 0 0, hw'.swap⟩
    · rintro ps p w2 ⟨v, hv⟩ hlen ⟨hpl, _⟩
      rw [List.map_append]
      exact parse11_c w1 S (chunksG go vo ss) g3 v (List.map valF ps) p (by omega) (by rw [List.length_map]; omega) w2 hv
    · rintro ps w2 w3 ⟨v, hv⟩ hx
      exact ⟨v, hv.keep hx⟩
  refine RW.exH fun v => ?_
  refine RW.formOwn (v := v) (Has.tail Has.head) (fun Al cl hvl hcapl hmaxl hlenl hgl => ?_)
  subst hvl
  refine RW.nil (EX.seq (CW.region ?_))
  refine RW.loadB1 sc36 rfl rfl (by first | exact Has.head | exact Has.tail Has.head | exact Has.tail (Has.tail Has.head) | exact Has.tail (Has.tail (Has.tail Has.head)) | exact Has.tail (Has.tail (Has.tail (Has.tail Has.head))) | exact Has.tail (Has.tail (Has.tail (Has.tail (Has.tail Has.head)))) | exact Has.tail (Has.tail (Has.tail (Has.tail (Has.tail (Has.tail Has.head)))))) rfl ?_
  refine RW.loadB1 sc44 rfl rfl (by first | exact Has.head | exact Has.tail Has.head | exact Has.tail (Has.tail Has.head) | exact Has.tail (Has.tail (Has.tail Has.head)) | exact Has.tail (Has.tail (Has.tail (Has.tail Has.head))) | exact Has.tail (Has.tail (Has.tail (Has.tail (Has.tail Has.head)))) | exact Has.tail (Has.tail (Has.tail (Has.tail (Has.tail (Has.tail Has.head)))))) rfl ?_
  refine RW.buildSlc sl36 rfl rfl rfl rfl (fun g9 hg9 hf9 => ?_)
  refine RW.append1 sl36 rfl rfl rfl (by first | exact Rem.head | exact Rem.tail Rem.head | exact Rem.tail (Rem.tail Rem.head) | exact Rem.tail (Rem.tail (Rem.tail Rem.head)) | exact Rem.tail (Rem.tail (Rem.tail (Rem.tail Rem.head))) | exact Rem.tail (Rem.tail (Rem.tail (Rem.tail (Rem.tail Rem.head)))) | exact Rem.tail (Rem.tail (Rem.tail (Rem.tail (Rem.tail (Rem.tail Rem.head)))))) (fun _ => by first | exact Upd.head | exact Upd.tail Upd.head | exact Upd.tail (Upd.tail Upd.head) | exact Upd.tail (Upd.tail (Upd.tail Upd.head)) | exact Upd.tail (Upd.tail (Upd.tail (Upd.tail Upd.head))) | exact Upd.tail (Upd.tail (Upd.tail (Upd.tail (Upd.tail Upd.head)))) | exact Upd.tail (Upd.tail (Upd.tail (Upd.tail (Upd.tail (Upd.tail Upd.head)))))) rfl (by repeat (first | exact Ones.nil | exact Enc.ones _ _ | refine Ones.cons rfl ?_)) (by simp only [maxLen]; omega) (by omega) (fun v10 hv10 => ?_)
  -- mq: at
  refine RW.formOwn (v := v10) (by first | exact Has.head | exact Has.tail Has.head | exact Has.tail (Has.tail Has.head) | exact Has.tail (Has.tail (Has.tail Has.head)) | exact Has.tail (Has.tail (Has.tail (Has.tail Has.head))) | exact Has.tail (Has.tail (Has.tail (Has.tail (Has.tail Has.head)))) | exact Has.tail (Has.tail (Has.tail (Has.tail (Has.tail (Has.tail Has.head)))))) (fun Ao co hvo hcapo hmaxo hleno hgo => ?_)
  subst hvo
  refine RW.store1 sc36 rfl rfl (by first | exact Upd.head | exact Upd.tail Upd.head | exact Upd.tail (Upd.tail Upd.head) | exact Upd.tail (Upd.tail (Upd.tail Upd.head)) | exact Upd.tail (Upd.tail (Upd.tail (Upd.tail Upd.head))) | exact Upd.tail (Upd.tail (Upd.tail (Upd.tail (Upd.tail Upd.head)))) | exact Upd.tail (Upd.tail (Upd.tail (Upd.tail (Upd.tail (Upd.tail Upd.head)))))) rfl (by first | exact Nat.le_of_ble_eq_true rfl | simp) ?_
  refine RW.nil ?_
  refine EX.fin0N Tryd.results43 (fun wz hw => ?_)
  -- mq: done
  have hw2 : SH w1 S (chunksG go (.slice Ao (ss.length + 1) co) (ss ++ [⟨Al, (groupF part).length, cl⟩])) wz := by
    unfold chunksG
    rw [List.length_append, Enc.all_snoc ESl]
    exact (hw.rem Rem.head).rem Rem.head
  have hnb : ∀ k, k ∈ feet (chunksG go (.slice Ao (ss.length + 1) co) (ss ++ [⟨Al, (groupF part).length, cl⟩])) → k ∈ S ∨ w1.heap.size ≤ k := fun k hk => by
    rcases Nat.lt_or_ge k w1.heap.size with h | h
    · exact .inl (hw2.cov k hk h)
    · exact .inr h
  have e1s := h2.size
  refine ⟨rfl, .slice Ao (ss.length + 1) co, ss ++ [⟨Al, (groupF part).length, cl⟩], hw2.rebase, h2.trans hw2.ext (fun x hx hlt => absurd (h3 x hx) (by omega)), fun k hk => ?_, by simp [h4], fun k s g hs hg => ?_⟩
  · rcases hnb k hk with h | h
    · exact h3 k h
    · omega
  · by_cases hkl : k < ss.length
    · rw [List.getElem?_append_left hkl] at hs
      rw [List.getElem?_append_left (by omega)] at hg
      exact (((h5 k s g hs hg).strong (by decide)).ext hw2.ext (fun k hk => hk.1.2)).weak (fun k hk => ⟨hk.1.1, fun hk2 => by
        rcases hnb k hk2 with h | h
        · exact hk.1.2 h
        · have := hk.2; omega⟩)
    · have hk2 : k = ss.length := by
        have := (List.getElem?_eq_some_iff.1 hs).1
        simp at this; omega
      subst hk2
      rw [List.getElem?_append_right (Nat.le_refl _), Nat.sub_self] at hs
      rw [List.getElem?_append_right (by omega), h4, Nat.sub_self] at hg
      simp only [List.getElem?_cons_zero, Option.some.injEq] at hs hg
      subst hs; subst hg
      obtain ⟨A6, c6, he6, hrd6⟩ := Rd.of_own (E := EInt) (hw.has (Has.tail Has.head)) rfl
      cases he6
      have hnd := hw.nodup
      refine hrd6.weak (fun k hk => ⟨?_, fun hk2 => ?_⟩)
      · have hkf : k ∈ feet [blk g3 [Value.slice Al (groupF part).length cl] 44, own 3 1 (Value.slice Al (groupF part).length cl) (groupF part).length (EInt.all (groupF part)), blk go ([vo].set 0 (Value.slice Ao (ss.length + 1) co)) 36, own 44 1 (Value.slice Ao (ss.length + 1) co) (ss.length + 1) (ESl.all ss ++ putAt (zeros [Value.slice none 0 0] 1) (0 * 1) (Value.slice Al (groupF part).length cl).cells.toList)] := by
          rw [feet_cons, feet_cons]
          exact List.mem_append.2 (.inr (List.mem_append.2 (.inl (Option.mem_toList.2 hk))))
        rcases Nat.lt_or_ge k w1.heap.size with h | h
        · exact h3 k (hw.cov k hkf h)
        · omega
      · rw [feet_cons, feet_cons, List.nodup_append] at hnd
        have h6 := hnd.2.1
        rw [List.nodup_append] at h6
        exact h6.2.2 k (Option.mem_toList.2 hk) k hk2 rfl
theorem CW.formOwn1 {P : Program} {n : Nat} {Q : Post} {l : Fr} {b : World} {S : List Nat} {cs : List Chunk} {c : Code} {e sz m : Nat} {v : Value} {xs : List Value} (hb : Has cs (own e sz v m xs)) (h : ∀ A c', v = .slice A m c' → CW P n c Q l (SH b S cs)) : CW P n c Q l (SH b S cs) :=
  CW.formOwn hb (fun A c' hv _ _ _ _ => h A c' hv)
/-- what Parse answers -/
def parseR (w : World) (s : List UInt8) : Ending → World → Prop := fun e w' =>
  if headB s = true then ∃ A n c, e = .returned (.tuple #[.slice A n c, .bool true]) ∧ Ext [] w w' ∧ RdG w' (fun k => w.heap.size ≤ k) A n c (parseF s)
  else e = .returned (.tuple #[.slice none 0 0, .bool false]) ∧ Ext [] w w'
theorem Parse_c (w : World) (s : List UInt8) (hs : s.length ≤ 1000000) :
    Calls Tryd.prog 29 [.string (bs s)].toArray w (parseR w s) := by
  have hplen := partsL_length 59 32 s
  refine calls (n := 12) Tryd.func29 rfl Tryd.ntmps29 rfl ?_
  refine CW.sub (H' := SH w [] []) ?_ (Sub.refl _) (fun x hx => SH.start' _ _ hx)
  refine CW.seq (CW.region ?_)
  refine RW.assign rfl rfl ?_
  refine RW.assign rfl rfl ?_
  refine RW.nil (EX.seq (CW.seq (CW.seq (CW.region ?_))))
  refine RW.move rfl rfl ?_
  -- mq: op 1: ('Op.call', ('Call.mk', ('Callee.value', ('Operand.func', '41')), ('arr', ('Operand.tmp', '5')), ('arr', '9'))) -> slot 6 ("param.go:45")
  refine RW.call rfl ca41 rfl (fun w' _ => head_c w' s) ?_
  refine RW.not_ rfl rfl ?_
  refine RW.nil (EX.seq ?_)
  -- mq: cond
  first | refine CW.condD rfl (fun h1 => ?_) (fun h1 => ?_) | refine CW.cond rfl (fun h1 => ?_) (fun h1 => ?_)
  · skip
    refine CW.seq (CW.region ?_)
    refine RW.assign rfl rfl ?_
    refine RW.assign rfl rfl ?_
    refine RW.nil (EX.seq (CW.ret (EX.seqR ?_)))
    refine EX.fin2 Tryd.results29 rfl rfl (fun wz hw => ?_)
    -- mq: done
    rw [parseR, if_neg (by simpa using h1)]
    exact ⟨rfl, hw.ext⟩
  · skip
    have hh : headB s = true := by simpa using h1
    refine CW.skip (EX.seq (CW.seq (CW.region ?_)))
    refine RW.alloc1 sc36 rfl (fun g4 hg4 hf4 => ?_)
    refine RW.nil (EX.seq (CW.seq (CW.region ?_)))
    refine RW.move rfl rfl ?_
    -- mq: op 1: ('Op.makeFunc', ('Fn.func', '43'), ('arr',), ('arr', ('Operand.tmp', '4'))) -> slot 9 ("param.go:49")
    refine RW.makeFunc rfl rfl rfl ?_
    refine RW.ownNil 44 1 ?_
    refine RW.callI (v := .tuple #[]) (H' := StP w g4 (parseF s)) rfl ca42 rfl (fun w' hw' => ?_) ?_
    · refine each_c w' 43 #[.pointer (some ⟨g4, 0, none⟩)] ca43 (fun ps w' => StP w g4 (List.map groupF ps) w') s hs 32 (by decide) ?_ ?_ 59 ?_
      · rintro ps p w2 hst hlen ⟨hpl, _⟩
        rw [List.map_append]
        exact parse1_c w g4 (List.map groupF ps) p (by omega) (by rw [List.length_map]; omega) w2 hst
      · rintro ps w2 w3 hst hx
        exact hst.ext hx
      · refine ⟨.slice none 0 0, [], hw'.swap.rebase, hw'.ext, fun k hk => ?_, rfl, by simp⟩
        rw [feet_cons, feet_cons] at hk
        simp [blk, own, feet, Value.ownBlock] at hk
        omega
    refine RW.each fun w1 hst => ?_
    obtain ⟨vo, ss, g1, g2, g3, g5, g6⟩ := hst
    refine RW.sub (H' := SH w1 (feet (chunksG g4 vo ss)) (chunksG g4 vo ss)) ?_ (Sub.refl _) (fun x hx => hx ▸ g1)
    refine RW.formOwn (v := vo) (Has.tail Has.head) (fun Ao co hvo hcapo hmaxo hleno hgo => ?_)
    subst hvo
    refine RW.nil (EX.seq (CW.seq (CW.region ?_)))
    refine RW.loadB1 sc36 rfl rfl (by first | exact Has.head | exact Has.tail Has.head | exact Has.tail (Has.tail Has.head) | exact Has.tail (Has.tail (Has.tail Has.head)) | exact Has.tail (Has.tail (Has.tail (Has.tail Has.head))) | exact Has.tail (Has.tail (Has.tail (Has.tail (Has.tail Has.head)))) | exact Has.tail (Has.tail (Has.tail (Has.tail (Has.tail (Has.tail Has.head)))))) rfl ?_
    refine RW.assign rfl rfl ?_
    refine RW.assign rfl rfl ?_
    refine RW.nil (EX.seq (CW.ret ?_))
    refine EX.fin2 Tryd.results29 rfl rfl (fun wz hw => ?_)
    -- mq: done
    rw [parseR, if_pos hh]
    obtain ⟨A6, c6, he6, hrd6⟩ := Rd.of_own (E := ESl) (hw.has (Has.tail Has.head)) rfl
    cases he6
    have e1s := g2.size
    have hge : ∀ k ∈ feet (chunksG g4 (.slice Ao ss.length co) ss), w.heap.size ≤ k := g3
    rw [show ss.length = ss.length from rfl] at hrd6
    refine ⟨Ao, ss.length, co, rfl, g2.trans hw.ext (fun x hx hlt => absurd (hge x hx) (by omega)), ss, hrd6.weak (fun k hk => hge k (by rw [feet_cons, feet_cons]; exact List.mem_append.2 (.inr (List.mem_append.2 (.inl (Option.mem_toList.2 hk)))))), g5, fun k s' g hs' hg => ((g6 k s' g hs' hg).ext hw.ext (fun k hk => hk.2)).weak (fun k hk => hk.1)⟩
end Go.Proofs.YtjplfonmdjnplaaDoor.Mq
