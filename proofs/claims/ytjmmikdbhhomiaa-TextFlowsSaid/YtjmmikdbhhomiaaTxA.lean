/- strings.Builder by the shelf's contracts, the forms that keep what lies above the builder -/
import Derived.Test.YtjmmikdbhhomiaaTx8
import Derived.Shelf.Strings.BuilderK
namespace Go.Proofs.Ytjmmikdbhhomiaa.Mq
open Go Go.RowKit Go.Proofs

def rnB : Shelf.Ren := ⟨fun | 166 => 24 | 169 => 25 | 240 => 41 | 276 => 51 | n => n, fun | 0 => 0 | 3 => 3 | 4 => 4 | 5 => 5 | 9 => 9 | 20 => 20 | 37 => 59 | 70 => 58 | 72 => 61 | 75 => 64 | 80 => 68 | 127 => 83 | 164 => 95 | n => n, fun n => n⟩
theorem lays166 : Lays.n166 Try.prog rnB where
  mixed := by kernel_rfl
  f166 := Try.func24.trans (congrArg some (by kernel_rfl))
  f240 := Try.func41.trans (congrArg some (by kernel_rfl))
  f276 := Try.func51.trans (congrArg some (by kernel_rfl))
  t0 := Try.underlying0
  a0 := Try.isAgg0
  z0 := Try.sizeOf0
  v0 := Try.zeroValue0
  t3 := Try.underlying3
  a3 := Try.isAgg3
  z3 := Try.sizeOf3
  v3 := Try.zeroValue3
  t4 := Try.underlying4
  a4 := Try.isAgg4
  z4 := Try.sizeOf4
  v4 := Try.zeroValue4
  t9 := Try.underlying9
  a9 := Try.isAgg9
  z9 := Try.sizeOf9
  v9 := Try.zeroValue9
  t20 := Try.underlying20
  a20 := Try.isAgg20
  z20 := Try.sizeOf20
  v20 := Try.zeroValue20
  t37 := Try.underlying59
  a37 := Try.isAgg59
  z37 := Try.sizeOf59
  v37 := Try.zeroValue59
  t70 := Try.underlying58
  a70 := Try.isAgg58
  z70 := Try.sizeOf58
  v70 := Try.zeroValue58
  t72 := Try.underlying61
  a72 := Try.isAgg61
  z72 := Try.sizeOf61
  v72 := Try.zeroValue61
  t75 := Try.underlying64
  a75 := Try.isAgg64
  z75 := Try.sizeOf64
  v75 := Try.zeroValue64
  t164 := Try.underlying95
  a164 := Try.isAgg95
  z164 := Try.sizeOf95
  v164 := Try.zeroValue95
theorem lays169 : Lays.n169 Try.prog rnB where
  mixed := by kernel_rfl
  f169 := Try.func25.trans (congrArg some (by kernel_rfl))
  t0 := Try.underlying0
  a0 := Try.isAgg0
  z0 := Try.sizeOf0
  v0 := Try.zeroValue0
  t3 := Try.underlying3
  a3 := Try.isAgg3
  z3 := Try.sizeOf3
  v3 := Try.zeroValue3
  t9 := Try.underlying9
  a9 := Try.isAgg9
  z9 := Try.sizeOf9
  v9 := Try.zeroValue9
  t37 := Try.underlying59
  a37 := Try.isAgg59
  z37 := Try.sizeOf59
  v37 := Try.zeroValue59
  t70 := Try.underlying58
  a70 := Try.isAgg58
  z70 := Try.sizeOf58
  v70 := Try.zeroValue58
  t72 := Try.underlying61
  a72 := Try.isAgg61
  z72 := Try.sizeOf61
  v72 := Try.zeroValue61
  t127 := Try.underlying83
  a127 := Try.isAgg83
  z127 := Try.sizeOf83
  v127 := Try.zeroValue83
theorem extraB : Builder.Extra Try.prog rnB where
  sizeBuilder := by kernel_rfl
  liesBuilder := by kernel_rfl
  t5 := Try.underlying5
  a5 := Try.isAgg5
  z5 := Try.sizeOf5
  v5 := Try.zeroValue5
  infoByte := by kernel_rfl
  cellsByte := by kernel_rfl
  sizeByte := by kernel_rfl
  neB5 := of_decide_eq_true (by kernel_rfl)
theorem BldF.ext {B b : Nat} {xs : List Value} {w w' : World} {T e : TypeId} (h : Lib.IsBuilderF T e B b xs w) (hx : Ext [] w w') : Lib.IsBuilderF T e B b xs w' := by
  have key : ∀ p, Lib.BuilderAtF T e B b p xs w → Lib.BuilderAtF T e B b p xs w' := by
    intro p hp
    have hlt := hp.lt
    obtain ⟨hB, v, hb, hown, hne⟩ := hp
    refine ⟨hB, v, ?_, hown.kept (row := none) ⟨hx.os, hx.tape, hx.output, hx.size, fun k hk _ => hx.block k hk (by simp)⟩ ?_, hne⟩
    · rw [hx.block b hlt (by simp)]; exact hb
    · cases v.ownBlock <;> simp
  exact h.elim (fun x => .inl (key _ x)) (fun x => .inr (key _ x))
/-- a builder above a world -/
def BlK (wB : World) (b : Nat) (s : List UInt8) (w' : World) : Prop := Ext [] wB w' ∧ Lib.IsBuilderF 61 5 wB.heap.size b (Lib.byteCells s) w'
/-- what stands, but the builder and rows of bytes -/
def KB (b : Nat) (w w' : World) : Prop := w.heap.size ≤ w'.heap.size ∧ Lib.OthersKept 5 (some b) w w'
theorem BlK.ext {w w' w'' : World} {b : Nat} {s : List UInt8} (h : BlK w b s w') (hx : Ext [] w' w'') : BlK w b s w'' := ⟨h.1.trans0 hx, BldF.ext h.2 hx⟩
theorem BlK.start {w w' : World} {g : Nat} (hg : w.heap.size ≤ g) (h : SH w [] [blk g [.pointer none, .slice none 0 0] 61] w') : BlK w g [] w' :=
  ⟨h.ext, .inl ⟨hg, .slice none 0 0, h.has Has.head, World.ownsRowF_nil _ _ _ _, by simp [Value.ownBlock]⟩⟩
theorem BlK.lt {w w' : World} {b : Nat} {s : List UInt8} (h : BlK w b s w') : b < w'.heap.size := h.2.elim (fun x => x.lt) (fun x => x.lt)
theorem Ext.belowB {w w' w'' : World} (h : Ext [] w w') (hb : Below w.heap.size w' w'') : Ext [] w w'' :=
  ⟨hb.os.trans h.os, hb.tape.trans h.tape, hb.output.trans h.output, Nat.le_trans h.size hb.size, fun k hk hn => (hb.block k hk).trans (h.block k hk hn)⟩
theorem KB.refl (b : Nat) (w : World) : KB b w w := ⟨Nat.le_refl _, Lib.OthersKept.refl _ _ w⟩
theorem KB.trans {b : Nat} {a c d : World} (h : KB b a c) (k : KB b c d) : KB b a d := ⟨Nat.le_trans h.1 k.1, h.2.trans k.2⟩
theorem KB.of_ext {b : Nat} {w w' : World} (h : Ext [] w w') : KB b w w' := ⟨h.size, fun k o hk _ _ => by rw [h.block k (Array.getElem?_eq_some_iff.1 hk).1 (by simp)]; exact hk⟩
theorem KB.trans0 {b : Nat} {a c d : World} (h : KB b a c) (k : Ext [] c d) : KB b a d := h.trans (KB.of_ext k)
theorem KB.blk {b g : Nat} {xs : List Value} {t : TypeId} {w w' : World} (h : KB b w w') (hg : (blk g xs t).pred w) (hb : g ≠ b) (ht : t ≠ 5) : (blk g xs t).pred w' :=
  h.2 g _ hg (by simpa using hb) (fun c fz e => ht (by cases e; rfl))
theorem writeString_k (wB : World) (b : Nat) (s t : List UInt8) (w' : World) (h : BlK wB b s w') (hl : s.length + t.length ≤ 140737488355328) :
    Calls Try.prog 24 [.pointer (some ⟨b, 0, none⟩), .string (bs t)].toArray w' (fun e w'' => e = .returned (.tuple #[.int .i64 (t.length : Int), .nilIface]) ∧ BlK wB b (s ++ t) w'' ∧ KB b w' w'') := by
  have := Any.Builder_WriteString_k lays166 extraB wB.heap.size b (Lib.byteCells s) (bs t) w' h.2 (by rw [Lib.byteCells_length, bs_size]; exact hl) h.1.size
  refine Calls.mono this ?_
  rintro e w'' ⟨rfl, hb, hbel, hk⟩
  refine ⟨by rw [bs_size], ⟨Ext.belowB h.1 hbel, .inr ?_⟩, hbel.size, hk⟩
  · have e : Lib.byteCells (s ++ t) = Lib.byteCells s ++ Lib.strCells (bs t) := by rw [Lib.strCells_eq]; simp [Lib.byteCells]
    rw [e]
    exact hb
theorem bldString_k (wB : World) (b : Nat) (s : List UInt8) (w' : World) (h : BlK wB b s w') :
    Calls Try.prog 25 [.pointer (some ⟨b, 0, none⟩)].toArray w' (fun e w'' => e = .returned (.string (bs s)) ∧ Ext [] wB w'') := by
  refine Calls.mono (Any.Builder_String_any_k lays169 extraB wB.heap.size b s w' h.2 h.1.size) ?_
  rintro e w'' ⟨rfl, _, hbel, _⟩
  exact ⟨rfl, Ext.belowB h.1 hbel⟩
theorem caWS : CaT Try.prog 24 := CaT.of Try.func24 (by kernel_rfl) (by kernel_rfl)
theorem caBS : CaT Try.prog 25 := CaT.of Try.func25 (by kernel_rfl) (by kernel_rfl)
/-- a call of a function value, of which anything is known -/
theorem RW.callW {P : Program} {n : Nat} {ops : Array Oper} {Q : Post} {rest : List Oper} {l : Fr} {d : Nat} {ty : TypeId} {pos : String} {af : Array Edge} {H : World → Prop} {fo : Operand} {args : List Operand} {tys : Array TypeId} {f : FuncId} {vs : List Value} {first cap : List Value} (Φ : World → Value → World → Prop) (hf : ev l fo = some (.func (.func f) first.toArray cap.toArray)) (hd : Nat.blt d n = true) (hcb : CaT P f) (hargs : evs l args = some vs)
    (hC : ∀ w, H w → Calls P f (first ++ vs ++ cap).toArray w (fun e w' => ∃ v, e = .returned v ∧ Φ w v w'))
    (h : ∀ w v w', H w → Φ w v w' → RW P n ops Q rest ((d, v) :: l) (fun x => x = w')) :
    RW P n ops Q (⟨some d, .call ⟨.value fo, args.toArray, tys⟩, ty, pos, af, none⟩ :: rest) l H := by
  refine RW.callG hf hd hcb hargs fun w hw => ?_
  have := hC w hw
  simp only [List.append_toArray]
  refine this.mono ?_
  rintro e w' ⟨v, rfl, hp⟩
  exact ⟨v, rfl, h w v w' hw hp⟩
/-- of_1: what the closure does -/
theorem of1_c (wB : World) (b : Nat) (s t : List UInt8) (p : PosV) (w : World) (h : BlK wB b s w) (hl : s.length + t.length ≤ 140737488355328) :
    Calls Try.prog 23 [Value.string (bs t), Value.agg p.enc.toArray, Value.pointer (some ⟨b, 0, none⟩)].toArray w (fun e w' => ∃ v, e = .returned v ∧ BlK wB b (s ++ t) w' ∧ KB b w w') := by
  refine calls (n := 7) Try.func23 rfl Try.ntmps23 rfl ?_
  refine CW.sub (H' := SH w [] []) ?_ (Sub.refl _) (fun x hx => SH.start' _ _ hx)
  refine CW.seq (CW.region ?_)
  refine RW.boxA rfl rfl (fun g4 hg4 hf4 => ?_)
  refine RW.nil (EX.seq ?_)
  -- mq: region
  refine CW.region ?_
  refine RW.move rfl rfl ?_
  -- mq: at
  refine RW.callW (first := []) (cap := []) (fun w0 v w1 => BlK wB b (s ++ t) w1 ∧ KB b w0 w1) rfl rfl caWS rfl (fun w' hw' => (writeString_k wB b s t w' (h.ext hw'.ext) hl).mono fun e w2 ⟨he, h1, h2⟩ => ⟨_, he, h1, h2⟩) (fun w1 v w2 hw1 ⟨hb2, hk2⟩ => ?_)
  refine RW.nil ?_
  refine EX.fin0N Try.results23 (fun wz hw => ?_)
  -- mq: done
  exact ⟨_, rfl, by subst hw; exact hb2, by subst hw; exact (KB.of_ext hw1.ext).trans hk2⟩
end Go.Proofs.Ytjmmikdbhhomiaa.Mq
