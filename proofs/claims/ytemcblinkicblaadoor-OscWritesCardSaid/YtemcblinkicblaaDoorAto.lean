/- strconv.Atoi, all cases; nil checks of an interface -/
import Derived.Test.YtemcblinkicblaaDoorNum
import Derived.Test.YtemcblinkicblaaDoorCallA
import Derived.Shelf.Strconv.ErrVarAll
import Derived.Shelf.Lays2
import Derived.WideLaws
import Derived.Stop.IfaceNil
namespace Go.Proofs.YtemcblinkicblaaDoor.Mq
open Go Go.RowKit Go.Proofs

def lays172C_ren : Shelf.Ren := ⟨fun | 129 => 95 | 171 => 37 | 172 => 33 | 205 => 79 | 243 => 54 | 244 => 50 | 245 => 51 | 246 => 69 | 247 => 63 | 279 => 64 | 280 => 65 | 281 => 66 | 282 => 67 | 283 => 82 | 284 => 83 | 285 => 84 | 286 => 85 | 287 => 68 | 316 => 78 | 317 => 94 | 318 => 96 | 319 => 97 | 320 => 98 | 321 => 80 | 322 => 81 | 337 => 102 | 338 => 103 | n => n, fun | 0 => 0 | 2 => 2 | 3 => 3 | 4 => 4 | 5 => 5 | 9 => 9 | 20 => 20 | 21 => 21 | 37 => 56 | 46 => 57 | 51 => 110 | 53 => 70 | 75 => 53 | 76 => 54 | 80 => 89 | 85 => 78 | 127 => 104 | 143 => 105 | 145 => 107 | 167 => 77 | 168 => 80 | 171 => 95 | 173 => 98 | 175 => 71 | 210 => 92 | 212 => 109 | 213 => 111 | 232 => 123 | 233 => 124 | n => n, fun | 15 => 0 | 16 => 1 | 17 => 3 | 18 => 6 | 19 => 7 | n => n⟩
theorem lays172C : LaysC.n172 Tryd.prog lays172C_ren where
  mixed := by kernel_rfl
  f129 := Tryd.func95.trans (congrArg some (by kernel_rfl))
  f171 := Tryd.func37.trans (congrArg some (by kernel_rfl))
  f172 := Tryd.func33.trans (congrArg some (by kernel_rfl))
  f205 := Tryd.func79.trans (congrArg some (by kernel_rfl))
  f243 := Tryd.func54.trans (congrArg some (by kernel_rfl))
  f244 := Tryd.func50.trans (congrArg some (by kernel_rfl))
  f245 := Tryd.func51.trans (congrArg some (by kernel_rfl))
  f246 := Tryd.func69.trans (congrArg some (by kernel_rfl))
  f247 := Tryd.func63.trans (congrArg some (by kernel_rfl))
  f279 := Tryd.func64.trans (congrArg some (by kernel_rfl))
  f280 := Tryd.func65.trans (congrArg some (by kernel_rfl))
  f281 := Tryd.func66.trans (congrArg some (by kernel_rfl))
  f282 := Tryd.func67.trans (congrArg some (by kernel_rfl))
  f283 := Tryd.func82.trans (congrArg some (by kernel_rfl))
  f284 := Tryd.func83.trans (congrArg some (by kernel_rfl))
  f285 := Tryd.func84.trans (congrArg some (by kernel_rfl))
  f286 := Tryd.func85.trans (congrArg some (by kernel_rfl))
  f287 := Tryd.func68.trans (congrArg some (by kernel_rfl))
  f316 := Tryd.func78.trans (congrArg some (by kernel_rfl))
  f317 := Tryd.func94.trans (congrArg some (by kernel_rfl))
  f318 := Tryd.func96.trans (congrArg some (by kernel_rfl))
  f319 := Tryd.func97.trans (congrArg some (by kernel_rfl))
  f320 := Tryd.func98.trans (congrArg some (by kernel_rfl))
  f321 := Tryd.func80.trans (congrArg some (by kernel_rfl))
  f322 := Tryd.func81.trans (congrArg some (by kernel_rfl))
  f337 := Tryd.func102.trans (congrArg some (by kernel_rfl))
  f338 := Tryd.func103.trans (congrArg some (by kernel_rfl))
  t0 := Tryd.underlying0
  a0 := Tryd.isAgg0
  z0 := Tryd.sizeOf0
  v0 := Tryd.zeroValue0
  t2 := Tryd.underlying2
  a2 := Tryd.isAgg2
  z2 := Tryd.sizeOf2
  v2 := Tryd.zeroValue2
  t3 := Tryd.underlying3
  a3 := Tryd.isAgg3
  z3 := Tryd.sizeOf3
  v3 := Tryd.zeroValue3
  t4 := Tryd.underlying4
  a4 := Tryd.isAgg4
  z4 := Tryd.sizeOf4
  v4 := Tryd.zeroValue4
  t5 := Tryd.underlying5
  a5 := Tryd.isAgg5
  z5 := Tryd.sizeOf5
  v5 := Tryd.zeroValue5
  t9 := Tryd.underlying9
  a9 := Tryd.isAgg9
  z9 := Tryd.sizeOf9
  v9 := Tryd.zeroValue9
  t20 := Tryd.underlying20
  a20 := Tryd.isAgg20
  z20 := Tryd.sizeOf20
  v20 := Tryd.zeroValue20
  t21 := Tryd.underlying21
  a21 := Tryd.isAgg21
  z21 := Tryd.sizeOf21
  v21 := Tryd.zeroValue21
  t37 := Tryd.underlying56
  a37 := Tryd.isAgg56
  z37 := Tryd.sizeOf56
  v37 := Tryd.zeroValue56
  t46 := Tryd.underlying57
  a46 := Tryd.isAgg57
  z46 := Tryd.sizeOf57
  v46 := Tryd.zeroValue57
  t51 := Tryd.underlying110
  a51 := Tryd.isAgg110
  z51 := Tryd.sizeOf110
  v51 := Tryd.zeroValue110
  t53 := Tryd.underlying70
  a53 := Tryd.isAgg70
  z53 := Tryd.sizeOf70
  v53 := Tryd.zeroValue70
  t75 := Tryd.underlying53
  a75 := Tryd.isAgg53
  z75 := Tryd.sizeOf53
  v75 := Tryd.zeroValue53
  t76 := Tryd.underlying54
  a76 := Tryd.isAgg54
  z76 := Tryd.sizeOf54
  v76 := Tryd.zeroValue54
  t85 := Tryd.underlying78
  a85 := Tryd.isAgg78
  z85 := Tryd.sizeOf78
  v85 := Tryd.zeroValue78
  t127 := Tryd.underlying104
  a127 := Tryd.isAgg104
  z127 := Tryd.sizeOf104
  v127 := Tryd.zeroValue104
  t143 := Tryd.underlying105
  a143 := Tryd.isAgg105
  z143 := Tryd.sizeOf105
  v143 := Tryd.zeroValue105
  t145 := Tryd.underlying107
  a145 := Tryd.isAgg107
  z145 := Tryd.sizeOf107
  v145 := Tryd.zeroValue107
  t167 := Tryd.underlying77
  a167 := Tryd.isAgg77
  z167 := Tryd.sizeOf77
  v167 := Tryd.zeroValue77
  t168 := Tryd.underlying80
  a168 := Tryd.isAgg80
  z168 := Tryd.sizeOf80
  v168 := Tryd.zeroValue80
  t171 := Tryd.underlying95
  a171 := Tryd.isAgg95
  z171 := Tryd.sizeOf95
  v171 := Tryd.zeroValue95
  t173 := Tryd.underlying98
  a173 := Tryd.isAgg98
  z173 := Tryd.sizeOf98
  v173 := Tryd.zeroValue98
  t175 := Tryd.underlying71
  a175 := Tryd.isAgg71
  z175 := Tryd.sizeOf71
  v175 := Tryd.zeroValue71
  t210 := Tryd.underlying92
  a210 := Tryd.isAgg92
  z210 := Tryd.sizeOf92
  v210 := Tryd.zeroValue92
  t212 := Tryd.underlying109
  a212 := Tryd.isAgg109
  z212 := Tryd.sizeOf109
  v212 := Tryd.zeroValue109
  t213 := Tryd.underlying111
  a213 := Tryd.isAgg111
  z213 := Tryd.sizeOf111
  t232 := Tryd.underlying123
  a232 := Tryd.isAgg123
  z232 := Tryd.sizeOf123
  v232 := Tryd.zeroValue123
  t233 := Tryd.underlying124
  a233 := Tryd.isAgg124
  z233 := Tryd.sizeOf124
  v233 := Tryd.zeroValue124
  g15 := by kernel_rfl
  g16 := by kernel_rfl
  g17 := by kernel_rfl
  g18 := by kernel_rfl
  g19 := by kernel_rfl
  t80 := Tryd.underlying89
  a80 := Tryd.isAgg89
  z80 := Tryd.sizeOf89
  v80 := Tryd.zeroValue89
  i0 := by kernel_rfl
  i2 := by kernel_rfl
  i3 := by kernel_rfl
  i4 := by kernel_rfl
  i5 := by kernel_rfl
  i9 := by kernel_rfl
  i20 := by kernel_rfl
  i21 := by kernel_rfl
  i37 := by kernel_rfl
  i46 := by kernel_rfl
  i51 := by kernel_rfl
  i53 := by kernel_rfl
  i75 := by kernel_rfl
  i76 := by kernel_rfl
  i80 := by kernel_rfl
  i85 := by kernel_rfl
  i127 := by kernel_rfl
  i143 := by kernel_rfl
  i145 := by kernel_rfl
  i167 := by kernel_rfl
  i168 := by kernel_rfl
  i171 := by kernel_rfl
  i173 := by kernel_rfl
  i175 := by kernel_rfl
  i210 := by kernel_rfl
  i212 := by kernel_rfl
  i232 := by kernel_rfl
  i233 := by kernel_rfl
  m15 := by kernel_rfl
  m16 := by kernel_rfl
  m17 := by kernel_rfl
  m18 := by kernel_rfl
  m19 := by kernel_rfl
  c0 := by kernel_rfl
  c2 := by kernel_rfl
  c3 := by kernel_rfl
  c4 := by kernel_rfl
  c5 := by kernel_rfl
  c9 := by kernel_rfl
  c20 := by kernel_rfl
  c21 := by kernel_rfl
  c37 := by kernel_rfl
  c46 := by kernel_rfl
  c51 := by kernel_rfl
  c53 := by kernel_rfl
  c75 := by kernel_rfl
  c76 := by kernel_rfl
  c80 := by kernel_rfl
  c85 := by kernel_rfl
  c127 := by kernel_rfl
  c143 := by kernel_rfl
  c145 := by kernel_rfl
  c167 := by kernel_rfl
  c168 := by kernel_rfl
  c171 := by kernel_rfl
  c173 := by kernel_rfl
  c175 := by kernel_rfl
  c210 := by kernel_rfl
  c212 := by kernel_rfl
  c213 := by kernel_rfl
  c232 := by kernel_rfl
  c233 := by kernel_rfl
theorem caAto : CaT Tryd.prog 33 := CaT.of Tryd.func33 (by kernel_rfl) (by kernel_rfl)
/-- the two errors' variables hold an interface value -/
def Ge (w : World) : Prop := (∃ t p, w.cell? ⟨lays172C_ren.g 15, 0, none⟩ = some (.iface t p)) ∧ (∃ t p, w.cell? ⟨lays172C_ren.g 16, 0, none⟩ = some (.iface t p))
theorem Ge.ext {w w' : World} (h : Ge w) (hx : Ext [] w w') : Ge w' := by
  obtain ⟨⟨t, p, hm⟩, ⟨t2, p2, hm2⟩⟩ := h
  exact ⟨⟨t, p, by rw [hx.cell (World.block_lt_of_cell? _ _ hm) (by simp)]; exact hm⟩, ⟨t2, p2, by rw [hx.cell (World.block_lt_of_cell? _ _ hm2) (by simp)]; exact hm2⟩⟩
theorem atoiOk_c (w : World) (s : List UInt8) (v : Int) (hs : s.length ≤ 1000000) (h : Lib.atoiAll s = .ok v) :
    Calls Tryd.prog 33 [.string (bs s)].toArray w (fun e w' => e = .returned (.tuple #[.int .i64 v, .nilIface]) ∧ Ext [] w w') := by
  refine (Any.strconv_Atoi_ok lays172C (bs s) (by rw [bs_size]; omega) v h w).mono ?_
  rintro e w' ⟨rfl, rfl | ⟨t, rfl⟩⟩
  · exact ⟨rfl, Ext.refl _ _⟩
  · exact ⟨rfl, Ext.of_below (Lib.bytesWorld_below w _ _)⟩
def IsErr (v : Value) : Prop := ∃ x t p, v = .tuple #[.int .i64 x, .iface t p]
theorem atoiNo_c (w : World) (hg : Ge w) (s : List UInt8) (hs : s.length ≤ 1000000) (h : ∀ v, Lib.atoiAll s ≠ .ok v) :
    Calls Tryd.prog 33 [.string (bs s)].toArray w (RetA (fun v _ => IsErr v) w) := by
  obtain ⟨⟨t, p, hm⟩, ⟨t2, p2, hm2⟩⟩ := hg
  cases hc : Lib.atoiAll s with
  | ok v => exact absurd hc (h v)
  | «syntax» =>
    refine (Any.strconv_Atoi_syntax lays172C (bs s) (by rw [bs_size]; omega) hc _ w hm (.inr ⟨t, p, rfl⟩)).mono ?_
    rintro e w' ⟨N, rfl, _, _, hb⟩
    exact ⟨_, rfl, Ext.of_below hb, _, _, _, rfl⟩
  | range =>
    refine (Any.strconv_Atoi_range lays172C (bs s) (by rw [bs_size]; omega) hc _ w hm2 (.inr ⟨t2, p2, rfl⟩)).mono ?_
    rintro e w' ⟨N, rfl, _, _, hb⟩
    exact ⟨_, rfl, Ext.of_below hb, _, _, _, rfl⟩
theorem numF_ok {s : List UInt8} {v : Int} (h : Lib.atoiAll s = .ok v) : numF s = if Lib.itoa v = s then some v else none := by
  have hb := Lib.atoiAll_bounds h
  split
  · rename_i he
    exact numF_iff.2 ⟨he, hb⟩
  · rename_i he
    refine numF_none.2 fun n hn e => ?_
    have := atoi_itoa hn
    rw [e, h] at this
    cases this
    exact he e
theorem numF_no {s : List UInt8} (h : ∀ v, Lib.atoiAll s ≠ .ok v) : numF s = none :=
  numF_none.2 fun n hn e => h n (e ▸ atoi_itoa hn)
section
variable {P : Program} {n : Nat} {ops : Array Oper} {Q : Post} {rest : List Oper} {l : Fr} {H : World → Prop} {d : Nat} {ty : TypeId} {pos : String} {af : Array Edge} {x : Operand} {xt yt : TypeId}
theorem RW.eqlNil (ht : P.isIface xt = true) (hd : Nat.blt d n = true) (hx : ev l x = some .nilIface)
    (h : RW P n ops Q rest ((d, .bool true) :: l) H) : RW P n ops Q (⟨some d, .binOp .eql xt x (.const .nilIface) yt, ty, pos, af, none⟩ :: rest) l H :=
  RW.val _ hd (fun ρ w hρ => by
    have e1 : ρ (.const .nilIface) = .nilIface := hρ _ _ rfl
    have e2 := run_eql_nil_nil_at (P := P) w xt ht
    simp [execOp, hρ x _ hx, e1, eqGuard_nil_constR, e2]) h
theorem RW.eqlErr {t : TypeId} {p : Value} (ht : P.isIface xt = true) (hd : Nat.blt d n = true) (hx : ev l x = some (.iface t p))
    (h : RW P n ops Q rest ((d, .bool false) :: l) H) : RW P n ops Q (⟨some d, .binOp .eql xt x (.const .nilIface) yt, ty, pos, af, none⟩ :: rest) l H :=
  RW.val _ hd (fun ρ w hρ => by
    have e1 : ρ (.const .nilIface) = .nilIface := hρ _ _ rfl
    have e2 := run_eql_iface_nil (P := P) w xt ht t p
    have e3 : eqGuard .eql xt x (.const .nilIface) (.iface t p) .nilIface = pure () := by rfl
    simp [execOp, hρ x _ hx, e1, e3, e2]) h
end
end Go.Proofs.YtemcblinkicblaaDoor.Mq
