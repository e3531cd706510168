/- strings.Builder: the shelf's contracts at this seat; a function that puts a text together byte by byte -/
import Derived.Test.YtkabehgjgicckaaPk2
import Derived.Shelf.Strings.Builder1
namespace Go.Proofs.Ytkabehgjgicckaa.Mq
open Go Go.RowKit Go.Proofs

def rnB : Shelf.Ren := ⟨fun | 166 => 29 | 169 => 30 | 240 => 34 | 276 => 36 | n => n, fun | 0 => 0 | 3 => 3 | 4 => 4 | 5 => 5 | 9 => 9 | 20 => 20 | 37 => 38 | 70 => 43 | 72 => 45 | 75 => 47 | 80 => 50 | 127 => 53 | 164 => 54 | n => n, fun n => n⟩
theorem lays166 : Lays.n166 Try.prog rnB where
  mixed := by kernel_rfl
  f166 := Try.func29.trans (congrArg some (by kernel_rfl))
  f240 := Try.func34.trans (congrArg some (by kernel_rfl))
  f276 := Try.func36.trans (congrArg some (by kernel_rfl))
  t0 := Try.underlying0
  a0 := Try.isAgg0
  z0 := Try.sizeOf0
  v0 := Try.zeroValue0
  t3 := Try.underlying3
  a3 := Try.isAgg3
  z3 := Try.sizeOf3
  v3 := Try.zeroValue3
  t4 := Try.underlying4
  a4 := Try.isAgg4
  z4 := Try.sizeOf4
  v4 := Try.zeroValue4
  t9 := Try.underlying9
  a9 := Try.isAgg9
  z9 := Try.sizeOf9
  v9 := Try.zeroValue9
  t20 := Try.underlying20
  a20 := Try.isAgg20
  z20 := Try.sizeOf20
  v20 := Try.zeroValue20
  t37 := Try.underlying38
  a37 := Try.isAgg38
  z37 := Try.sizeOf38
  v37 := Try.zeroValue38
  t70 := Try.underlying43
  a70 := Try.isAgg43
  z70 := Try.sizeOf43
  v70 := Try.zeroValue43
  t72 := Try.underlying45
  a72 := Try.isAgg45
  z72 := Try.sizeOf45
  v72 := Try.zeroValue45
  t75 := Try.underlying47
  a75 := Try.isAgg47
  z75 := Try.sizeOf47
  v75 := Try.zeroValue47
  t164 := Try.underlying54
  a164 := Try.isAgg54
  z164 := Try.sizeOf54
  v164 := Try.zeroValue54
theorem lays169 : Lays.n169 Try.prog rnB where
  mixed := by kernel_rfl
  f169 := Try.func30.trans (congrArg some (by kernel_rfl))
  t0 := Try.underlying0
  a0 := Try.isAgg0
  z0 := Try.sizeOf0
  v0 := Try.zeroValue0
  t3 := Try.underlying3
  a3 := Try.isAgg3
  z3 := Try.sizeOf3
  v3 := Try.zeroValue3
  t9 := Try.underlying9
  a9 := Try.isAgg9
  z9 := Try.sizeOf9
  v9 := Try.zeroValue9
  t37 := Try.underlying38
  a37 := Try.isAgg38
  z37 := Try.sizeOf38
  v37 := Try.zeroValue38
  t70 := Try.underlying43
  a70 := Try.isAgg43
  z70 := Try.sizeOf43
  v70 := Try.zeroValue43
  t72 := Try.underlying45
  a72 := Try.isAgg45
  z72 := Try.sizeOf45
  v72 := Try.zeroValue45
  t127 := Try.underlying53
  a127 := Try.isAgg53
  z127 := Try.sizeOf53
  v127 := Try.zeroValue53
theorem extraB : Builder.Extra Try.prog rnB where
  sizeBuilder := by kernel_rfl
  liesBuilder := by kernel_rfl
  t5 := Try.underlying5
  a5 := Try.isAgg5
  z5 := Try.sizeOf5
  v5 := Try.zeroValue5
  infoByte := by kernel_rfl
  cellsByte := by kernel_rfl
  sizeByte := by kernel_rfl
  neB5 := by decide
theorem Bld.ext {B b : Nat} {xs : List Value} {w w' : World} {T e : TypeId} (h : Lib.IsBuilder T e B b xs w) (hx : Ext [] w w') : Lib.IsBuilder T e B b xs w' := by
  have key : ∀ p, Lib.BuilderAt T e B b p xs w → Lib.BuilderAt T e B b p xs w' := by
    intro p hp
    have hlt := hp.lt
    obtain ⟨hB, v, hb, hown, hne⟩ := hp
    refine ⟨hB, v, ?_, hown.kept (row := none) ⟨hx.os, hx.tape, hx.output, hx.size, fun k hk _ => hx.block k hk (by simp)⟩ ?_, hne⟩
    · rw [hx.block b hlt (by simp)]; exact hb
    · cases v.ownBlock <;> simp
  exact h.elim (fun x => .inl (key _ x)) (fun x => .inr (key _ x))
def BldH (w : World) (b : Nat) (s : List UInt8) (w' : World) : Prop := Ext [] w w' ∧ Lib.IsBuilder 45 5 w.heap.size b (Lib.byteCells s) w'
theorem Ext.belowB {w w' w'' : World} (h : Ext [] w w') (hb : Below w.heap.size w' w'') : Ext [] w w'' :=
  ⟨hb.os.trans h.os, hb.tape.trans h.tape, hb.output.trans h.output, Nat.le_trans h.size hb.size, fun k hk hn => (hb.block k hk).trans (h.block k hk hn)⟩
theorem writeString_c (w : World) (b : Nat) (s t : List UInt8) (w' : World) (h : BldH w b s w') (hl : s.length + t.length ≤ 140737488355328) :
    Calls Try.prog 29 [.pointer (some ⟨b, 0, none⟩), .string (bs t)].toArray w' (fun e w'' => e = .returned (.tuple #[.int .i64 (t.length : Int), .nilIface]) ∧ BldH w b (s ++ t) w'') := by
  have := Any.Builder_WriteString lays166 extraB w.heap.size b (Lib.byteCells s) (bs t) w' h.2 (by rw [Lib.byteCells_length, bs_size]; exact hl) h.1.size
  refine Calls.mono this ?_
  rintro e w'' ⟨rfl, hb, hbel⟩
  refine ⟨by rw [bs_size], Ext.belowB h.1 hbel, .inr ?_⟩
  · have e : Lib.byteCells (s ++ t) = Lib.byteCells s ++ Lib.strCells (bs t) := by rw [Lib.strCells_eq]; simp [Lib.byteCells]
    rw [e]
    exact hb
theorem bldString_c (w : World) (b : Nat) (s : List UInt8) (w' : World) (h : BldH w b s w') :
    Calls Try.prog 30 [.pointer (some ⟨b, 0, none⟩)].toArray w' (fun e w'' => e = .returned (.string (bs s)) ∧ Ext [] w w'') := by
  by_cases h0 : s = []
  · subst h0
    refine Calls.mono (Any.Builder_String_empty lays169 extraB w.heap.size b w' h.2 h.1.size) ?_
    rintro e w'' ⟨rfl, hbel⟩
    exact ⟨rfl, Ext.belowB h.1 hbel⟩
  · refine Calls.mono (Any.Builder_String lays169 extraB w.heap.size b s w' h.2 h0) ?_
    rintro e w'' ⟨rfl, hbel⟩
    exact ⟨rfl, Ext.belowB h.1 hbel⟩
theorem caWS : CaT Try.prog 29 := CaT.of Try.func29 (by kernel_rfl) (by kernel_rfl)
theorem caBS : CaT Try.prog 30 := CaT.of Try.func30 (by kernel_rfl) (by kernel_rfl)
theorem each_c (w : World) (f : FuncId) (g : UInt8 → List UInt8) (hf : CaT Try.prog f) (hc : ∀ w' c, Calls Try.prog f [.int .u8 (UInt8.toNat c : Int)].toArray w' (fun e w'' => e = .returned (.string (bs (g c))) ∧ Ext [] w' w'')) (hg : ∀ c, (g c).length ≤ 3) (s : List UInt8) (hs : s.length ≤ 1000000) :
    Calls Try.prog 19 [.string (bs s), .func (.func f) #[] #[]].toArray w (fun e w' => e = .returned (.string (bs (s.flatMap g))) ∧ Ext [] w w') := by
  have hlen : ∀ l : List UInt8, (l.flatMap g).length ≤ 3 * l.length := by
    intro l
    induction l with
    | nil => simp
    | cons c l ih => have := hg c; simp only [List.flatMap_cons, List.length_append, List.length_cons]; omega
  refine calls (n := 20) Try.func19 rfl Try.ntmps19 rfl ?_
  refine CW.sub (H' := SH w [] []) ?_ (Sub.refl _) (fun x hx => SH.start' _ _ hx)
  refine CW.seq (CW.region ?_)
  refine RW.assign rfl rfl ?_
  refine RW.nil (EX.seq (CW.seq (CW.region ?_)))
  refine RW.allocA ag45 rfl (fun g5 hg5 hf5 => ?_)
  refine RW.nil (EX.seq (CW.seq (CW.seq (CW.region ?_))))
  refine RW.assign rfl rfl ?_
  refine RW.nil (EX.seq (CW.block ?_))
  -- mq: loop
  refine CW.loop (ι := Nat) (fun i => [(0, .string (bs s)), (1, .func (.func f) #[] #[]), (5, .pointer (some ⟨g5, 0, none⟩)), (6, .int .i64 (i : Int))]) (fun i => BldH w g5 ((s.take i).flatMap g)) (fun i => i ≤ s.length) (fun i => s.length - i) ?_ ?_
  · refine fun w' hw' => ⟨0, Nat.zero_le _, (by repeat (first | exact Sub.nil | refine Sub.cons (by rfl) ?_)), hw'.ext, .inl ?_⟩
    have hb := hw'.has (c := blk g5 [.pointer none, .slice none 0 0] 45) Has.head
    exact ⟨hg5, .slice none 0 0, hb, World.ownsRow_nil _ _ _ _, by simp [Value.ownBlock]⟩
  · rintro i hi
    refine CW.seq (CW.seq (CW.region ?_))
    refine RW.move rfl rfl ?_
    refine RW.move rfl rfl ?_
    refine RW.lenS Try.underlying9 rfl rfl ?_
    refine RW.lss rfl rfl rfl ?_
    refine RW.nil (EX.seq ?_)
    -- mq: cond
    first | refine CW.condD rfl (fun hlt => ?_) (fun hlt => ?_) | refine CW.cond rfl (fun hlt => ?_) (fun hlt => ?_)
    · skip
      obtain ⟨c, hcx⟩ : ∃ c, s[i]? = some c := ⟨s[i]'(by omega), List.getElem?_eq_getElem _⟩
      have htk : (s.take (i + 1)).flatMap g = (s.take i).flatMap g ++ g c := by rw [List.take_add_one, hcx, Option.toList_some, List.flatMap_append]; simp
      have hl1 := hlen (s.take i)
      have hl2 := hg c
      have hl3 : (s.take i).length ≤ s.length := by rw [List.length_take]; omega
      refine CW.skip (EX.seq (CW.seq (CW.block (CW.region ?_))))
      refine RW.move rfl rfl ?_
      refine RW.move rfl rfl ?_
      refine RW.move rfl rfl ?_
      refine RW.ixStr (q := i) Try.underlying9 rfl rfl rfl (by omega) hcx ?_
      -- mq: op 4: ('Op.call', ('Call.mk', ('Callee.value', ('Operand.tmp', '13')), ('arr', ('Operand.tmp', '16')), ('arr', '5'))) -> slot 17 ("pct.go:28")
      refine RW.callIV (v := .string (bs (g c))) (H' := BldH w g5 ((s.take i).flatMap g)) rfl rfl hf rfl (fun w' hw' => ?_) ?_
      · refine Calls.mono (hc w' c) ?_
        rintro e w'' ⟨rfl, hx⟩
        exact ⟨rfl, hw'.1.trans0 hx, Bld.ext hw'.2 hx⟩
      refine RW.callI (v := .tuple #[.int .i64 ((g c).length : Int), .nilIface]) (H' := BldH w g5 ((s.take (i + 1)).flatMap g)) rfl caWS rfl (fun w' hw' => ?_) ?_
      · rw [htk]
        exact writeString_c w g5 _ (g c) w' hw' (by omega)
      refine RW.nil (EX.bkN (EX.seq (CW.region ?_)))
      refine RW.move rfl rfl ?_
      refine RW.add rfl rfl rfl (wrap64 (by omega) (by omega)) ?_
      refine RW.assign rfl rfl ?_
      refine RW.nil ?_
      -- mq: loopend
      exact EX.lpN (i + 1) (by omega) (by omega) (by repeat (first | exact Sub.nil | refine Sub.cons (by rfl) ?_)) (fun w' hw' => hw')
    · skip
      have his : s.take i = s := List.take_of_length_le (by omega)
      rw [his]
      refine CW.exit (EX.seqE (EX.lpE (EX.bkE (EX.seq (CW.seq (CW.region ?_))))))
      -- mq: op 0: ('Op.call', ('Call.mk', ('Callee.value', ('Operand.func', '30')), ('arr', ('Operand.tmp', '5')), ('arr', '45'))) -> slot 19 ("pct.go:30")
      refine RW.callI (v := .string (bs (s.flatMap g))) (H' := fun w' => Ext [] w w') rfl caBS rfl (fun w' hw' => bldString_c w g5 _ w' hw') ?_
      refine RW.assign rfl rfl ?_
      refine RW.nil (EX.seq (CW.ret ?_))
      refine EX.fin1 Try.results19 rfl (fun wz hw => ?_)
      -- mq: done
      exact ⟨rfl, hw⟩
theorem Lay_c (w : World) (s : List UInt8) (hs : s.length ≤ 1000000) :
    Calls Try.prog 11 [.string (bs s)].toArray w (fun e w' => e = .returned (.string (bs (layL s))) ∧ Ext [] w w') := by
  refine calls (n := 5) Try.func11 rfl Try.ntmps11 rfl ?_
  refine CW.sub (H' := SH w [] []) ?_ (Sub.refl _) (fun x hx => SH.start' _ _ hx)
  refine CW.seq (CW.region ?_)
  refine RW.assign rfl rfl ?_
  refine RW.nil (EX.seq (CW.seq (CW.region ?_)))
  refine RW.move rfl rfl ?_
  -- mq: op 1: ('Op.call', ('Call.mk', ('Callee.value', ('Operand.func', '19')), ('arr', ('Operand.tmp', '3'), ('Operand.func', '20')), ('arr', '9', '40'))) -> slot 4 ("pct.go:35")
  refine RW.call rfl ca19 rfl (fun w' _ => each_c w' 20 layB ca20 (fun w'' c => layByte_c w'' c) (fun c => by rcases layB_cases c with ⟨_, _, h⟩ | ⟨_, h⟩ <;> rw [h] <;> simp) s hs) ?_
  refine RW.assign rfl rfl ?_
  refine RW.nil (EX.seq (CW.ret ?_))
  refine EX.fin1 Try.results11 rfl (fun wz hw => ?_)
  -- mq: done
  exact ⟨rfl, hw.ext⟩
theorem lower_c (w : World) (s : List UInt8) (hs : s.length ≤ 1000000) :
    Calls Try.prog 17 [.string (bs s)].toArray w (fun e w' => e = .returned (.string (bs (lowL s))) ∧ Ext [] w w') := by
  refine calls (n := 5) Try.func17 rfl Try.ntmps17 rfl ?_
  refine CW.sub (H' := SH w [] []) ?_ (Sub.refl _) (fun x hx => SH.start' _ _ hx)
  refine CW.seq (CW.region ?_)
  refine RW.assign rfl rfl ?_
  refine RW.nil (EX.seq (CW.seq (CW.region ?_)))
  refine RW.move rfl rfl ?_
  -- mq: op 1: ('Op.call', ('Call.mk', ('Callee.value', ('Operand.func', '19')), ('arr', ('Operand.tmp', '3'), ('Operand.func', '26')), ('arr', '9', '40'))) -> slot 4 ("pct.go:102")
  refine RW.call rfl ca19 rfl (fun w' _ => each_c w' 26 (fun c => [lowB c]) ca26 (fun w'' c => lowByte_c w'' c) (fun c => by simp) s hs) ?_
  refine RW.assign rfl rfl ?_
  refine RW.nil (EX.seq (CW.ret ?_))
  refine EX.fin1 Try.results17 rfl (fun wz hw => ?_)
  -- mq: done
  refine ⟨?_, hw.ext⟩
  rw [lowL, List.map_eq_flatMap]
end Go.Proofs.Ytkabehgjgicckaa.Mq
