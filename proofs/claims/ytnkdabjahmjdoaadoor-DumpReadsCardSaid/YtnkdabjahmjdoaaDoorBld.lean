/- strings.Builder by the shelf's contracts -/
import Derived.Test.YtnkdabjahmjdoaaDoorJoin
import Derived.Test.YtnkdabjahmjdoaaDoorBits
import Derived.Shelf.Strings.Builder1
namespace Go.Proofs.YtnkdabjahmjdoaaDoor.Mq
open Go Go.RowKit Go.Proofs

def rnB : Shelf.Ren := ⟨fun | 166 => 48 | 167 => 49 | 169 => 50 | 240 => 60 | 276 => 75 | n => n, fun | 0 => 0 | 3 => 3 | 4 => 4 | 5 => 5 | 9 => 9 | 20 => 20 | 37 => 53 | 70 => 77 | 72 => 79 | 75 => 81 | 80 => 69 | 127 => 92 | 164 => 102 | n => n, fun n => n⟩
theorem lays166 : Lays.n166 Tryd.prog rnB where
  mixed := by kernel_rfl
  f166 := Tryd.func48.trans (congrArg some (by kernel_rfl))
  f240 := Tryd.func60.trans (congrArg some (by kernel_rfl))
  f276 := Tryd.func75.trans (congrArg some (by kernel_rfl))
  t0 := Tryd.underlying0
  a0 := Tryd.isAgg0
  z0 := Tryd.sizeOf0
  v0 := Tryd.zeroValue0
  t3 := Tryd.underlying3
  a3 := Tryd.isAgg3
  z3 := Tryd.sizeOf3
  v3 := Tryd.zeroValue3
  t4 := Tryd.underlying4
  a4 := Tryd.isAgg4
  z4 := Tryd.sizeOf4
  v4 := Tryd.zeroValue4
  t9 := Tryd.underlying9
  a9 := Tryd.isAgg9
  z9 := Tryd.sizeOf9
  v9 := Tryd.zeroValue9
  t20 := Tryd.underlying20
  a20 := Tryd.isAgg20
  z20 := Tryd.sizeOf20
  v20 := Tryd.zeroValue20
  t37 := Tryd.underlying53
  a37 := Tryd.isAgg53
  z37 := Tryd.sizeOf53
  v37 := Tryd.zeroValue53
  t70 := Tryd.underlying77
  a70 := Tryd.isAgg77
  z70 := Tryd.sizeOf77
  v70 := Tryd.zeroValue77
  t72 := Tryd.underlying79
  a72 := Tryd.isAgg79
  z72 := Tryd.sizeOf79
  v72 := Tryd.zeroValue79
  t75 := Tryd.underlying81
  a75 := Tryd.isAgg81
  z75 := Tryd.sizeOf81
  v75 := Tryd.zeroValue81
  t164 := Tryd.underlying102
  a164 := Tryd.isAgg102
  z164 := Tryd.sizeOf102
  v164 := Tryd.zeroValue102
theorem lays167 : Lays.n167 Tryd.prog rnB where
  mixed := by kernel_rfl
  f167 := Tryd.func49.trans (congrArg some (by kernel_rfl))
  f240 := Tryd.func60.trans (congrArg some (by kernel_rfl))
  f276 := Tryd.func75.trans (congrArg some (by kernel_rfl))
  t0 := Tryd.underlying0
  a0 := Tryd.isAgg0
  z0 := Tryd.sizeOf0
  v0 := Tryd.zeroValue0
  t4 := Tryd.underlying4
  a4 := Tryd.isAgg4
  z4 := Tryd.sizeOf4
  v4 := Tryd.zeroValue4
  t5 := Tryd.underlying5
  a5 := Tryd.isAgg5
  z5 := Tryd.sizeOf5
  v5 := Tryd.zeroValue5
  t9 := Tryd.underlying9
  a9 := Tryd.isAgg9
  z9 := Tryd.sizeOf9
  v9 := Tryd.zeroValue9
  t20 := Tryd.underlying20
  a20 := Tryd.isAgg20
  z20 := Tryd.sizeOf20
  v20 := Tryd.zeroValue20
  t37 := Tryd.underlying53
  a37 := Tryd.isAgg53
  z37 := Tryd.sizeOf53
  v37 := Tryd.zeroValue53
  t70 := Tryd.underlying77
  a70 := Tryd.isAgg77
  z70 := Tryd.sizeOf77
  v70 := Tryd.zeroValue77
  t72 := Tryd.underlying79
  a72 := Tryd.isAgg79
  z72 := Tryd.sizeOf79
  v72 := Tryd.zeroValue79
  t75 := Tryd.underlying81
  a75 := Tryd.isAgg81
  z75 := Tryd.sizeOf81
  v75 := Tryd.zeroValue81
  t164 := Tryd.underlying102
  a164 := Tryd.isAgg102
  z164 := Tryd.sizeOf102
  v164 := Tryd.zeroValue102
theorem lays169 : Lays.n169 Tryd.prog rnB where
  mixed := by kernel_rfl
  f169 := Tryd.func50.trans (congrArg some (by kernel_rfl))
  t0 := Tryd.underlying0
  a0 := Tryd.isAgg0
  z0 := Tryd.sizeOf0
  v0 := Tryd.zeroValue0
  t3 := Tryd.underlying3
  a3 := Tryd.isAgg3
  z3 := Tryd.sizeOf3
  v3 := Tryd.zeroValue3
  t9 := Tryd.underlying9
  a9 := Tryd.isAgg9
  z9 := Tryd.sizeOf9
  v9 := Tryd.zeroValue9
  t37 := Tryd.underlying53
  a37 := Tryd.isAgg53
  z37 := Tryd.sizeOf53
  v37 := Tryd.zeroValue53
  t70 := Tryd.underlying77
  a70 := Tryd.isAgg77
  z70 := Tryd.sizeOf77
  v70 := Tryd.zeroValue77
  t72 := Tryd.underlying79
  a72 := Tryd.isAgg79
  z72 := Tryd.sizeOf79
  v72 := Tryd.zeroValue79
  t127 := Tryd.underlying92
  a127 := Tryd.isAgg92
  z127 := Tryd.sizeOf92
  v127 := Tryd.zeroValue92
theorem extraB : Builder.Extra Tryd.prog rnB where
  sizeBuilder := by kernel_rfl
  liesBuilder := by kernel_rfl
  t5 := Tryd.underlying5
  a5 := Tryd.isAgg5
  z5 := Tryd.sizeOf5
  v5 := Tryd.zeroValue5
  infoByte := by kernel_rfl
  cellsByte := by kernel_rfl
  sizeByte := by kernel_rfl
  neB5 := of_decide_eq_true (by kernel_rfl)
theorem Bld.ext {B b : Nat} {xs : List Value} {w w' : World} {T e : TypeId} (h : Lib.IsBuilder T e B b xs w) (hx : Ext [] w w') : Lib.IsBuilder T e B b xs w' := by
  have key : ∀ p, Lib.BuilderAt T e B b p xs w → Lib.BuilderAt T e B b p xs w' := by
    intro p hp
    have hlt := hp.lt
    obtain ⟨hB, v, hb, hown, hne⟩ := hp
    refine ⟨hB, v, ?_, hown.kept (row := none) ⟨hx.os, hx.tape, hx.output, hx.size, fun k hk _ => hx.block k hk (by simp)⟩ ?_, hne⟩
    · rw [hx.block b hlt (by simp)]; exact hb
    · cases v.ownBlock <;> simp
  exact h.elim (fun x => .inl (key _ x)) (fun x => .inr (key _ x))
def BldH (w : World) (b : Nat) (s : List UInt8) (w' : World) : Prop := Ext [] w w' ∧ Lib.IsBuilder 79 5 w.heap.size b (Lib.byteCells s) w'
theorem BldH.ext {w w' w'' : World} {b : Nat} {s : List UInt8} (h : BldH w b s w') (hx : Ext [] w' w'') : BldH w b s w'' := ⟨h.1.trans0 hx, Bld.ext h.2 hx⟩
theorem BldH.start {w w' : World} {g : Nat} (hg : w.heap.size ≤ g) (h : SH w [] [blk g [.pointer none, .slice none 0 0] 79] w') : BldH w g [] w' :=
  ⟨h.ext, .inl ⟨hg, .slice none 0 0, h.has Has.head, World.ownsRow_nil _ _ _ _, by simp [Value.ownBlock]⟩⟩
theorem Ext.belowB {w w' w'' : World} (h : Ext [] w w') (hb : Below w.heap.size w' w'') : Ext [] w w'' :=
  ⟨hb.os.trans h.os, hb.tape.trans h.tape, hb.output.trans h.output, Nat.le_trans h.size hb.size, fun k hk hn => (hb.block k hk).trans (h.block k hk hn)⟩
theorem writeString_c (w : World) (b : Nat) (s t : List UInt8) (w' : World) (h : BldH w b s w') (hl : s.length + t.length ≤ 140737488355328) :
    Calls Tryd.prog 48 [.pointer (some ⟨b, 0, none⟩), .string (bs t)].toArray w' (fun e w'' => e = .returned (.tuple #[.int .i64 (t.length : Int), .nilIface]) ∧ BldH w b (s ++ t) w'') := by
  have := Any.Builder_WriteString lays166 extraB w.heap.size b (Lib.byteCells s) (bs t) w' h.2 (by rw [Lib.byteCells_length, bs_size]; exact hl) h.1.size
  refine Calls.mono this ?_
  rintro e w'' ⟨rfl, hb, hbel⟩
  refine ⟨by rw [bs_size], Ext.belowB h.1 hbel, .inr ?_⟩
  · have e : Lib.byteCells (s ++ t) = Lib.byteCells s ++ Lib.strCells (bs t) := by rw [Lib.strCells_eq]; simp [Lib.byteCells]
    rw [e]
    exact hb
theorem writeByte_c (w : World) (b : Nat) (s : List UInt8) (c : UInt8) (w' : World) (h : BldH w b s w') (hl : s.length + 1 ≤ 140737488355328) :
    Calls Tryd.prog 49 [.pointer (some ⟨b, 0, none⟩), .int .u8 (c.toNat : Int)].toArray w' (fun e w'' => e = .returned .nilIface ∧ BldH w b (s ++ [c]) w'') := by
  have := Any.Builder_WriteByte lays167 extraB w.heap.size b (Lib.byteCells s) (c.toNat : Int) w' h.2 (by rw [Lib.byteCells_length]; exact hl) h.1.size
  refine Calls.mono this ?_
  rintro e w'' ⟨rfl, hb, hbel⟩
  refine ⟨rfl, Ext.belowB h.1 hbel, .inr ?_⟩
  · have e : Lib.byteCells (s ++ [c]) = Lib.byteCells s ++ [Value.int .u8 (c.toNat : Int)] := by simp [Lib.byteCells]
    rw [e]
    exact hb
theorem bldString_c (w : World) (b : Nat) (s : List UInt8) (w' : World) (h : BldH w b s w') :
    Calls Tryd.prog 50 [.pointer (some ⟨b, 0, none⟩)].toArray w' (fun e w'' => e = .returned (.string (bs s)) ∧ Ext [] w w'') := by
  by_cases h0 : s = []
  · subst h0
    refine Calls.mono (Any.Builder_String_empty lays169 extraB w.heap.size b w' h.2 h.1.size) ?_
    rintro e w'' ⟨rfl, hbel⟩
    exact ⟨rfl, Ext.belowB h.1 hbel⟩
  · refine Calls.mono (Any.Builder_String lays169 extraB w.heap.size b s w' h.2 h0) ?_
    rintro e w'' ⟨rfl, hbel⟩
    exact ⟨rfl, Ext.belowB h.1 hbel⟩
theorem caWS : CaT Tryd.prog 48 := CaT.of Tryd.func48 (by kernel_rfl) (by kernel_rfl)
theorem caWB : CaT Tryd.prog 49 := CaT.of Tryd.func49 (by kernel_rfl) (by kernel_rfl)
theorem caBS : CaT Tryd.prog 50 := CaT.of Tryd.func50 (by kernel_rfl) (by kernel_rfl)
end Go.Proofs.YtnkdabjahmjdoaaDoor.Mq
