/- BITS OF NUMBERS; SHIFTS; A TEXT OF BYTES; A FUNCTION THAT THE MODEL ITSELF ANSWERS -/
import Derived.Test.YtjmmikdbhhomiaaDrawT
import Derived.Test.YtjmmikdbhhomiaaCallA
import Derived.Laws.BytesString
import Derived.Laws.Externs
import Derived.Laws.Shifts
import Derived.Lib.Bytealg
namespace Go.Proofs.Ytjmmikdbhhomiaa.Mq
open Go Go.RowKit

theorem bv_nat {n m : Nat} (h : m < 2 ^ n) : (BitVec.ofInt n (m : Int)).toNat = m := by
  rw [BitVec.ofInt_natCast, BitVec.toNat_ofNat, Nat.mod_eq_of_lt h]
theorem wrapN8 {z : Int} (h1 : 0 ≤ z) (h2 : z < 256) : IntKind.u8.wrap z = z := by simp [IntKind.wrap, IntKind.bits, IntKind.signed]; omega
theorem wrapN16 {z : Int} (h1 : 0 ≤ z) (h2 : z < 65536) : IntKind.u16.wrap z = z := by simp [IntKind.wrap, IntKind.bits, IntKind.signed]; omega
theorem wrapN32 {z : Int} (h1 : 0 ≤ z) (h2 : z < 4294967296) : IntKind.u32.wrap z = z := by simp [IntKind.wrap, IntKind.bits, IntKind.signed]; omega
theorem wrapN64 {z : Int} (h1 : 0 ≤ z) (h2 : z < 18446744073709551616) : IntKind.u64.wrap z = z := by simp [IntKind.wrap, IntKind.bits, IntKind.signed]; omega
theorem wrapI32 {z : Int} (h1 : -2147483648 ≤ z) (h2 : z < 2147483648) : IntKind.i32.wrap z = z := by simp [IntKind.wrap, IntKind.bits, IntKind.signed]; omega
theorem and_eq {k : IntKind} {a b : Int} {m n : Nat} {r : Int} (ha : a = m) (hb : b = n) (hm : m < 2 ^ k.bits) (hn : n < 2 ^ k.bits) (hw : k.wrap ((m &&& n : Nat) : Int) = r) : k.wrap ((BitVec.ofInt k.bits a &&& BitVec.ofInt k.bits b).toNat : Int) = r := by
  subst ha hb
  rw [BitVec.toNat_and, bv_nat hm, bv_nat hn, hw]
theorem or_eq {k : IntKind} {a b : Int} {m n : Nat} {r : Int} (ha : a = m) (hb : b = n) (hm : m < 2 ^ k.bits) (hn : n < 2 ^ k.bits) (hw : k.wrap ((m ||| n : Nat) : Int) = r) : k.wrap ((BitVec.ofInt k.bits a ||| BitVec.ofInt k.bits b).toNat : Int) = r := by
  subst ha hb
  rw [BitVec.toNat_or, bv_nat hm, bv_nat hn, hw]
theorem andNot_eq {k : IntKind} {a b : Int} {m n : Nat} {r : Int} (ha : a = m) (hb : b = n) (hm : m < 2 ^ k.bits) (hn : n < 2 ^ k.bits) (hw : k.wrap ((m &&& (2 ^ k.bits - 1 - n) : Nat) : Int) = r) : k.wrap ((BitVec.ofInt k.bits a &&& ~~~ BitVec.ofInt k.bits b).toNat : Int) = r := by
  subst ha hb
  rw [BitVec.toNat_and, BitVec.toNat_not, bv_nat hm, bv_nat hn, hw]
section
variable {P : Program} {n : Nat} {ops : Array Oper} {Q : Post} {rest : List Oper} {l : Fr} {H : World → Prop} {d : Nat} {ty : TypeId} {pos : String} {af : Array Edge} {xt yt : TypeId} {x y : Operand} {k k2 : IntKind} {a b r : Int}
theorem RW.and_ (hd : Nat.blt d n = true) (hx : ev l x = some (.int k a)) (hy : ev l y = some (.int k b)) (hr : k.wrap ((BitVec.ofInt k.bits a &&& BitVec.ofInt k.bits b).toNat : Int) = r)
    (h : RW P n ops Q rest ((d, .int k r) :: l) H) : RW P n ops Q (⟨some d, .binOp .and xt x y yt, ty, pos, af, none⟩ :: rest) l H :=
  RW.val _ hd (fun ρ w hρ => by
    have e : binOp .and xt (.int k a) (.int k b) = pure (.int k r) := by
      rw [binOp_and, ← hr]; rfl
    simp only [execOp, hρ x _ hx, hρ y _ hy, eqGuard, e]
    simp [Sem.run_pure, Result.andThen]) h
theorem RW.or_ (hd : Nat.blt d n = true) (hx : ev l x = some (.int k a)) (hy : ev l y = some (.int k b)) (hr : k.wrap ((BitVec.ofInt k.bits a ||| BitVec.ofInt k.bits b).toNat : Int) = r)
    (h : RW P n ops Q rest ((d, .int k r) :: l) H) : RW P n ops Q (⟨some d, .binOp .or xt x y yt, ty, pos, af, none⟩ :: rest) l H :=
  RW.val _ hd (fun ρ w hρ => by
    have e : binOp .or xt (.int k a) (.int k b) = pure (.int k r) := by
      rw [binOp_or, ← hr]; rfl
    simp only [execOp, hρ x _ hx, hρ y _ hy, eqGuard, e]
    simp [Sem.run_pure, Result.andThen]) h
theorem RW.andNot_ (hd : Nat.blt d n = true) (hx : ev l x = some (.int k a)) (hy : ev l y = some (.int k b)) (hr : k.wrap ((BitVec.ofInt k.bits a &&& ~~~ BitVec.ofInt k.bits b).toNat : Int) = r)
    (h : RW P n ops Q rest ((d, .int k r) :: l) H) : RW P n ops Q (⟨some d, .binOp .andNot xt x y yt, ty, pos, af, none⟩ :: rest) l H :=
  RW.val _ hd (fun ρ w hρ => by
    have e : binOp .andNot xt (.int k a) (.int k b) = pure (.int k r) := by
      rw [binOp_andNot, ← hr]; rfl
    simp only [execOp, hρ x _ hx, hρ y _ hy, eqGuard, e]
    simp [Sem.run_pure, Result.andThen]) h
theorem RW.shrN (hd : Nat.blt d n = true) (hx : ev l x = some (.int k a)) (hy : ev l y = some (.int k2 b)) (h0 : 0 ≤ b) (hr : a / 2 ^ min b.toNat k.bits = r)
    (h : RW P n ops Q rest ((d, .int k r) :: l) H) : RW P n ops Q (⟨some d, .binOp .shr xt x y yt, ty, pos, af, none⟩ :: rest) l H :=
  RW.val _ hd (fun ρ w hρ => by simp [execOp, hρ x _ hx, hρ y _ hy, eqGuard, binOp, shift_shr_any k k2 a b h0, hr]) h
theorem RW.shlN (hd : Nat.blt d n = true) (hx : ev l x = some (.int k a)) (hy : ev l y = some (.int k2 b)) (h0 : 0 ≤ b) (hr : k.wrap (a * 2 ^ min b.toNat k.bits) = r)
    (h : RW P n ops Q rest ((d, .int k r) :: l) H) : RW P n ops Q (⟨some d, .binOp .shl xt x y yt, ty, pos, af, none⟩ :: rest) l H :=
  RW.val _ hd (fun ρ w hρ => by
    have h1 : ¬ b < 0 := by omega
    simp [execOp, hρ x _ hx, hρ y _ hy, eqGuard, binOp, Op.shift, h1, hr]) h
/- bytes -/
def EU8 : Enc UInt8 := ⟨fun c => [.int .u8 (c.toNat : Int)], 1, fun _ => rfl, fun _ => by repeat (first | exact Ones.nil | refine Ones.cons rfl ?_)⟩
theorem fold_bytes : ∀ (s : List UInt8) (a : ByteArray), (s.map (fun c => (c.toNat : Int))).foldl (fun r n => r.push (UInt8.ofNat n.toNat)) a = a ++ bs s
  | [], a => by simp [bs, ByteArray.ext_iff]
  | c :: s, a => by
    rw [List.map_cons, List.foldl_cons, fold_bytes s]
    have h : UInt8.ofNat (c.toNat : Int).toNat = c := by simp
    rw [h]
    apply ByteArray.ext
    simp [bs, ByteArray.push]
theorem RW.bytesStr {H : World → Prop} {src dst e : TypeId} {F : Nat → Prop} {A : Option Addr} {m c : Nat} {s : List UInt8} (hs : P.underlying src = some (.slice e)) (he : P.underlying e = some (.int .u8)) (ht : P.underlying dst = some .string) (hd : Nat.blt d n = true) (hx : ev l x = some (.slice A m c))
    (hrd : ∀ w, H w → Rd EU8 w F A m c s)
    (h : RW P n ops Q rest ((d, .string (bs s)) :: l) H) : RW P n ops Q (⟨some d, .convert src dst x, ty, pos, af, none⟩ :: rest) l H :=
  RW.valH _ hd (fun ρ w hρ hw => by
    have hr := hrd w hw
    have hl := hr.len
    simp only [execOp, hρ x _ hx]
    rw [Sem.run_bind, run_convert_bytes_string w src dst e A m c hs he ht]
    by_cases h0 : m = 0
    · subst h0
      have : s = [] := List.eq_nil_of_length_eq_zero hl
      subst this
      cases A with
      | none => simp [Conv.bytesToString, Result.andThen, Sem.run_pure]; rfl
      | some a =>
        have hz : (loadCells a 0).run P w = .ok (([] : List Int).map (Value.int .u8)).toArray w := by
          have := run_loadCellsFrom (P := P) (w := w) (p := a) [] 0 #[] (fun j u hu => by simp at hu)
          simpa [loadCells] using this
        rw [run_bytesToString w a 0 c [] hz]
        simp [Result.andThen, Sem.run_pure]
        rfl
    · obtain ⟨a, rfl, _, hc⟩ := hr.cells (by omega)
      have hz : (loadCells a m).run P w = .ok ((s.map (fun c => (c.toNat : Int))).map (Value.int .u8)).toArray w := by
        have := run_loadCellsFrom (P := P) (w := w) (p := a) (s.map (fun c => Value.int .u8 (c.toNat : Int))) 0 #[] (fun j u hu => by
          rw [List.getElem?_map] at hu
          cases hk : s[j]? with
          | none => rw [hk] at hu; simp at hu
          | some b =>
            rw [hk] at hu
            simp only [Option.map_some, Option.some.injEq] at hu
            subst hu
            have := hc j b 0 (.int .u8 (b.toNat : Int)) hk rfl
            simpa [EU8, Addr.add] using this)
        rw [List.map_map]
        simpa [loadCells, hl, Function.comp_def] using this
      rw [run_bytesToString w a m c _ hz, fold_bytes]
      have : ByteArray.empty ++ bs s = bs s := by apply ByteArray.ext; simp [bs]
      rw [this]
      simp [Result.andThen, Sem.run_pure]) h
/- a call of a function that the model answers itself -/
theorem RW.ext1 {args : List Operand} {tys : Array TypeId} {f : FuncId} {vs : List Value} {v : Value} {H : World → Prop} (hd : Nat.blt d n = true) (hargs : evs l args = some vs)
    (hrun : ∀ w, H w → (callFunc f vs.toArray).run P w = .ok (.value v) w)
    (h : RW P n ops Q rest ((d, v) :: l) H) : RW P n ops Q (⟨some d, .call ⟨.value (.func f), args.toArray, tys⟩, ty, pos, af, none⟩ :: rest) l H :=
  RW.valH v hd (fun ρ w hρ hw => by
    have := hrun w hw
    have hf : ρ (.func f) = .func (.func f) #[] #[] := hρ (.func f) _ rfl
    simp [execOp, resolve, hf, Deferred.ofValue, invoke, hρ.list _ _ hargs, this]) h
/- a call that leaves the world as it is -/
theorem RW.callP {args : List Operand} {tys : Array TypeId} {f : FuncId} {vs : List Value} {v : Value} {H : World → Prop} (hd : Nat.blt d n = true) (hcb : CaT P f) (hargs : evs l args = some vs)
    (hC : ∀ w, H w → Calls P f vs.toArray w (fun e w' => e = .returned v ∧ w' = w))
    (h : RW P n ops Q rest ((d, v) :: l) H) : RW P n ops Q (⟨some d, .call ⟨.value (.func f), args.toArray, tys⟩, ty, pos, af, none⟩ :: rest) l H := by
  refine RW.callG rfl hd hcb hargs fun w hw => ?_
  have := hC w hw
  simp only [Array.empty_append, Array.append_empty]
  refine this.mono ?_
  rintro e w' ⟨rfl, rfl⟩
  exact ⟨v, rfl, h.at hw⟩
/- a call whose answer is known; what is known of the world turns -/
theorem RW.callI {args : List Operand} {tys : Array TypeId} {f : FuncId} {vs : List Value} {v : Value} {H H' : World → Prop} (hd : Nat.blt d n = true) (hcb : CaT P f) (hargs : evs l args = some vs)
    (hC : ∀ w, H w → Calls P f vs.toArray w (fun e w' => e = .returned v ∧ H' w'))
    (h : RW P n ops Q rest ((d, v) :: l) H') : RW P n ops Q (⟨some d, .call ⟨.value (.func f), args.toArray, tys⟩, ty, pos, af, none⟩ :: rest) l H := by
  refine RW.callG rfl hd hcb hargs fun w hw => ?_
  have := hC w hw
  simp only [Array.empty_append, Array.append_empty]
  refine this.mono ?_
  rintro e w' ⟨rfl, hw'⟩
  exact ⟨v, rfl, h.at hw'⟩
theorem RW.callIV {fo : Operand} {args : List Operand} {tys : Array TypeId} {f : FuncId} {vs : List Value} {v : Value} {H H' : World → Prop} {first cap : Array Value} (hf : ev l fo = some (.func (.func f) first cap)) (hd : Nat.blt d n = true) (hcb : CaT P f) (hargs : evs l args = some vs)
    (hC : ∀ w, H w → Calls P f (first ++ vs.toArray ++ cap) w (fun e w' => e = .returned v ∧ H' w'))
    (h : RW P n ops Q rest ((d, v) :: l) H') : RW P n ops Q (⟨some d, .call ⟨.value fo, args.toArray, tys⟩, ty, pos, af, none⟩ :: rest) l H := by
  refine RW.callG hf hd hcb hargs fun w hw => ?_
  refine (hC w hw).mono ?_
  rintro e w' ⟨rfl, hw'⟩
  exact ⟨v, rfl, h.at hw'⟩
end
theorem indexByte_run {P : Program} {f : FuncId} {fn : Func} (hf : P.funcs[f]? = some fn) (h1 : (fn.name == "runtime.NumGoroutine") = false) (h2 : fn.body.isNone = true) (h3 : Extern.findNext fn = none) (he : Extern.find fn = some Extern.BytealgIndexByte.indexByte) (s : List UInt8) (c : UInt8) (w : World) :
    (callFunc f [Value.string (bs s), .int .u8 (c.toNat : Int)].toArray).run P w = .ok (.value (.int .i64 (Lib.indexByte s c))) w := by
  rw [run_callFunc_extern hf h1 h2 h3 he]
  have := Lib.run_indexByteString (P := P) (bs s) (c.toNat : Int) w
  rw [show [Value.string (bs s), Value.int .u8 (c.toNat : Int)].toArray = #[Value.string (bs s), Value.int .u8 (c.toNat : Int)] from rfl, this]
  have hc : (c.toNat : Int).toNat.toUInt8 = c := by simp
  simp [Result.andThen, hc]
end Go.Proofs.Ytjmmikdbhhomiaa.Mq
