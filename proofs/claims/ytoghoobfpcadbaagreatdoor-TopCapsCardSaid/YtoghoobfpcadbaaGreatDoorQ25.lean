/- part 25 of the proof -/
import Derived.Test.YtoghoobfpcadbaaGreatDoorQ10
import Derived.Shelf.Strconv.Itoa3
import Derived.Lib.ItoaLen
import Derived.Shelf.Strings.OnBuilder
namespace Go.Proofs.YtoghoobfpcadbaaGreatDoor.Mq.cW
open Go Go.RowKit Go.Proofs Tryz
def B0:Shelf.Ren:=⟨λ| 129=>215 | 171=>343 | 243=>403 | 246=>435 | 283=>454 | 284=>455 | 285=>456 | 286=>457 | 317=>470 | 318=>471 | 319=>472 | 320=>473 | 337=>483 | 338=>393 | n=>n,λ| 0=>0 | 2=>2 | 3=>3 | 4=>4 | 5=>5 | 9=>9 | 20=>20 | 37=>59 | 46=>250 | 51=>76 | 53=>32 | 171=>447 | 173=>449 | 212=>456 | 213=>457 | 232=>473 | 233=>436 | n=>n,λ| 17=>2 | 18=>7 | 19=>0 | n=>n⟩
theorem B1:LaysM.n171 prog B0 where
 mixed:=by kernel_rfl
 f129:=func215.trans (aV some ab)
 f171:=func343.trans (aV some ab)
 f243:=func403.trans (aV some ab)
 f246:=func435.trans (aV some ab)
 f283:=func454.trans (aV some ab)
 f284:=func455.trans (aV some ab)
 f285:=func456.trans (aV some ab)
 f286:=func457.trans (aV some ab)
 f317:=func470.trans (aV some ab)
 f318:=func471.trans (aV some ab)
 f319:=func472.trans (aV some ab)
 f320:=func473.trans (aV some ab)
 f337:=func483.trans (aV some ab)
 f338:=func393.trans (aV some ab)
 t0:=underlying0
 a0:=isAgg0
 z0:=sizeOf0
 v0:=zeroValue0
 t2:=underlying2
 a2:=isAgg2
 z2:=sizeOf2
 v2:=zeroValue2
 t3:=underlying3
 a3:=isAgg3
 z3:=sizeOf3
 v3:=zeroValue3
 t4:=underlying4
 a4:=isAgg4
 z4:=sizeOf4
 v4:=zeroValue4
 t5:=underlying5
 a5:=isAgg5
 z5:=sizeOf5
 v5:=zeroValue5
 t9:=underlying9
 a9:=isAgg9
 z9:=sizeOf9
 v9:=zeroValue9
 t20:=underlying20
 a20:=isAgg20
 z20:=sizeOf20
 v20:=zeroValue20
 t37:=underlying59
 a37:=isAgg59
 z37:=sizeOf59
 v37:=zeroValue59
 t46:=underlying250
 a46:=isAgg250
 z46:=sizeOf250
 v46:=zeroValue250
 t51:=underlying76
 a51:=isAgg76
 z51:=sizeOf76
 v51:=zeroValue76
 t53:=underlying32
 a53:=isAgg32
 z53:=sizeOf32
 v53:=zeroValue32
 t171:=underlying447
 a171:=isAgg447
 z171:=sizeOf447
 v171:=zeroValue447
 t173:=underlying449
 a173:=isAgg449
 z173:=sizeOf449
 v173:=zeroValue449
 t212:=underlying456
 a212:=isAgg456
 z212:=sizeOf456
 v212:=zeroValue456
 t213:=underlying457
 a213:=isAgg457
 z213:=sizeOf457
 t232:=underlying473
 a232:=isAgg473
 z232:=sizeOf473
 v232:=zeroValue473
 t233:=underlying436
 a233:=isAgg436
 z233:=sizeOf436
 v233:=zeroValue436
 g17:=by kernel_rfl
 g18:=by kernel_rfl
 g19:=by kernel_rfl
 i0:=by kernel_rfl
 i2:=by kernel_rfl
 i3:=by kernel_rfl
 i4:=by kernel_rfl
 i5:=by kernel_rfl
 i9:=by kernel_rfl
 i20:=by kernel_rfl
 i37:=by kernel_rfl
 i46:=by kernel_rfl
 i51:=by kernel_rfl
 i53:=by kernel_rfl
 i171:=by kernel_rfl
 i173:=by kernel_rfl
 i212:=by kernel_rfl
 i232:=by kernel_rfl
 i233:=by kernel_rfl
 m17:=by kernel_rfl
 m18:=by kernel_rfl
 m19:=by kernel_rfl
def fy (w:World):Prop:=Lib.TabIs prog w "internal/strconv.uint64pow10" .u64 Lib.pow10Tab
theorem vy {P:Program} {w w':World} {nm:String} {k:IntKind} {b:List Int} (h:Lib.TabIs P w nm k b) (c:Ext [] w w'):Lib.TabIs P w' nm k b:=by
 unfold Lib.TabIs World.var? at *
 obtain⟨g,d,a⟩:=lL.1 h;refine lL.2 ⟨g,d,?_⟩;have e:g<w.heap.size:=by
  rcases e0 g w.heap.size with h | h
  exact h;rw[rO h] at a;cases a
 rw[c.block g e av];exact a
theorem fy.ext {w w':World} (h:fy w) (a:Ext [] w w'):fy w':=vy h a
theorem B2 (w:World) (k:Nat) (os:Array Obj):Ext [] w (Sort.grow (w.drewN k) os):=by
 refine⟨rfl,rfl,rfl,?_,λb a _=>?_⟩;show w.heap.size≤(w.heap++os).size
 simp
 show (w.heap++os)[b]? = w.heap[b]?
 rw[ub a]
theorem vz (w:World) (a:fy w) (n:Int) (h: -9223372036854775808≤n∧n≤9223372036854775807):
 Calls prog 343 [.int .i64 n].toArray w (λe w'=>e= .returned (.string (bs (Lib.itoa n)))∧Ext [] w w'):=by
 refine Calls.mono (Any.strconv_Itoa B1 n h.1 h.2 w a) ?_;rintro e w' ⟨rfl,k,os,rfl⟩;exact⟨rfl,B2 w k os⟩
theorem vA:ad prog 343:=ad.of func343 ab ab
theorem yj {u:Nat} (h:u<10):Lib.decDigits u=[UInt8.ofNat (48+u)]:=by rw[Lib.decDigits,dif_pos h]
theorem TO {u:Nat} (h: ¬u<10):Lib.decDigits u=Lib.decDigits (u/10)++[UInt8.ofNat (48+u%10)]:=by rw[Lib.decDigits,dif_neg h]
theorem Ib {u:Nat} (h:u≤9223372036854775807): (Lib.decDigits u).length≤21:=by
 have:=Lib.itoa_length_le (u:Int) aa aa
 rwa [Lib.itoa_nonneg] at this
def Ic:Shelf.Ren:=⟨λ| 156=>344 | 165=>404 | 166=>72 | 169=>73 | 240=>125 | 241=>436 | 276=>192 | 277=>458 | n=>n,λ| 0=>0 | 3=>3 | 4=>4 | 5=>5 | 9=>9 | 20=>20 | 31=>330 | 37=>59 | 70=>79 | 72=>81 | 75=>176 | 76=>177 | 80=>49 | 127=>229 | 164=>286 | n=>n,λn=>n⟩
theorem Id:Lays.n156 prog Ic where
 mixed:=by kernel_rfl
 f156:=func344.trans (aV some ab)
 f165:=func404.trans (aV some ab)
 f166:=func72.trans (aV some ab)
 f169:=func73.trans (aV some ab)
 f240:=func125.trans (aV some ab)
 f241:=func436.trans (aV some ab)
 f276:=func192.trans (aV some ab)
 f277:=func458.trans (aV some ab)
 t0:=underlying0
 a0:=isAgg0
 z0:=sizeOf0
 v0:=zeroValue0
 t3:=underlying3
 a3:=isAgg3
 z3:=sizeOf3
 v3:=zeroValue3
 t4:=underlying4
 a4:=isAgg4
 z4:=sizeOf4
 v4:=zeroValue4
 t9:=underlying9
 a9:=isAgg9
 z9:=sizeOf9
 v9:=zeroValue9
 t20:=underlying20
 a20:=isAgg20
 z20:=sizeOf20
 v20:=zeroValue20
 t31:=underlying330
 a31:=isAgg330
 z31:=sizeOf330
 v31:=zeroValue330
 t37:=underlying59
 a37:=isAgg59
 z37:=sizeOf59
 v37:=zeroValue59
 t70:=underlying79
 a70:=isAgg79
 z70:=sizeOf79
 v70:=zeroValue79
 t72:=underlying81
 a72:=isAgg81
 z72:=sizeOf81
 v72:=zeroValue81
 t75:=underlying176
 a75:=isAgg176
 z75:=sizeOf176
 v75:=zeroValue176
 t76:=underlying177
 a76:=isAgg177
 z76:=sizeOf177
 v76:=zeroValue177
 t127:=underlying229
 a127:=isAgg229
 z127:=sizeOf229
 v127:=zeroValue229
 t164:=underlying286
 a164:=isAgg286
 z164:=sizeOf286
 v164:=zeroValue286
theorem Ie:Builder.Extra prog Ic where
 sizeBuilder:=by kernel_rfl
 liesBuilder:=by kernel_rfl
 t5:=underlying5
 a5:=isAgg5
 z5:=sizeOf5
 v5:=zeroValue5
 infoByte:=by kernel_rfl
 cellsByte:=by kernel_rfl
 sizeByte:=by kernel_rfl
 neB5:=a1 ab
def jL:bx (List UInt8):=⟨λs=>[.string (bs s)],1,λ_=>rfl,λ_=>aH.cons rfl aH.nil⟩
theorem If:ad prog 344:=ad.of func344 ab ab
theorem Ig (w:World) (e m:Nat) (v:Value) (L:List (List UInt8)) (b:List UInt8) (h:w.ownsRow 0 e 1 v m (jL.all L)) (i:L.length=m) (y:m≤1000000) (n: (Lib.join L b).length≤140737488355328):
 Calls prog 344 [v,.string (bs b)].toArray w (λe w'=>e= .returned (.string (bs (Lib.join L b)))∧Ext [] w w'):=by
 rcases h.2 with ⟨rfl,o⟩ | ⟨g,cap,am,rfl,_,p,z,A,B,C⟩
 have q:L=[]:=iZ (i.trans o)
 subst q;refine (Any.strings_Join_none Id Ie none 0 (bs b) w).mono λe w' ⟨d,c⟩=>⟨?_,c▸Ext.refl _ _⟩
 rw[d];rfl
 have k: (L.map bs).map (λx:ByteArray=>x.data.toList)=L:=by
  rw[lJ];conv=>rhs;rw[←List.map_id L]
  exact uh λs _=>rfl
 have l:=Any.strings_Join Id Ie g 0 cap (L.map bs) (bs b) w (λj x a=>by
  rw[eJ] at a
  cases f:L[j]? with
  | none=>rw[f] at a;simp at a
  | some s=>
   rw[f] at a
   simp only[ol,dI] at a
   subst a;have r:=jL.lM (j:=0) (u:= .string (bs s)) f rfl
   have c: (jL.all L)[j]? = some (.string (bs s)):=by simpa [jL] using r
   have t:=h.cells (g:=g) rfl j _ c
   rwa [Addr.add_lit] at t)
  (lE.1 p).1 (by simp;omega) (by simp;omega) (by rw[k];exact n)
 rw[k,cT,i] at l
 exact l.mono λe w' ⟨d,c⟩=>⟨d,Ext.r8 c⟩
def gY (l:List Int):List UInt8:=Lib.join (l.map Lib.itoa) [59]
theorem join_le (a:List UInt8) (k:Nat): ∀(L:List (List UInt8)),(∀s∈L,s.length≤k)→(Lib.join L a).length≤L.length*(k+a.length)
 | [],_=>by simp[Lib.join_nil]
 | x::r,h=>by
  rw[Lib.join_cons,b8];have f:=h x av
  have d: ∀(r:List (List UInt8)),(∀s∈r,s.length≤k)→(Lib.joinTail a r).length≤r.length*(k+a.length):=by
   intro r;induction r with
   | nil=>intro _;simp[Lib.joinTail]
   | cons y r e=>
    intro h;have c:=e (λs b=>h s (by simp[b]))
    have g:=h y av
    unfold Lib.joinTail at c ⊢
    rw[lI,List.flatten_cons,b8,b8,eK,Nat.add_one_mul];omega
  have c:=d r (λs b=>h s (by simp[b]))
  rw[eK,Nat.add_one_mul];omega
theorem B5 (l:List Int) (h: ∀x∈l,-9223372036854775808≤x∧x≤9223372036854775807): (gY l).length≤l.length*22:=by
 have:=join_le [59] 21 (l.map Lib.itoa) (λs b=>by
  obtain⟨x,a,rfl⟩:=dX.1 b;exact Lib.itoa_length_le x (h x a).1 (h x a).2)
 simpa [gY] using this
theorem qj (w:World) (h:fy w) (F:Nat→Prop) (A:Option Addr) (m c:Nat) (l:List Int) (f:Rd bX w F A m c l) (s:m≤1000) (g: ∀x∈l,-9223372036854775808≤x∧x≤9223372036854775807):
 Calls prog 249 [.slice A m c].toArray w (λe w'=>e= .returned (.string (bs (gY l)))∧Ext [] w w'):=by
 have t:=f.len
 have u:=B5 l g
 refine aW func249 ntmps249 ?_;refine bB ?_;refine jS 9 1 ?_;refine aD ?_;refine b1 (ι:=Nat × Value) (λk=>[(3,k.2),(6,.slice A m c),(7,.int .i64 (m:Int)),(8,.int .i64 (k.1 :Int))]) (λk=>af w [] [own 9 1 k.2 k.1 (jL.all ((l.take k.1).map Lib.itoa))]) (λk=>k.1≤m) (λk=>m - k.1) ?_ ?_;exact λw b=>⟨(0,.slice none 0 0),bP _,(cw rfl rfl rfl rfl),b⟩
 rintro⟨k,v⟩ i;dsimp only at i ⊢
 refine al ?_;refine aj (λj=>?_) (λj=>?_);obtain⟨x,d⟩ : ∃x,l[k]? = some x:=⟨l[k]'aa,bG _⟩;have n:=g x (dc d)
 obtain⟨b2,o,_,p⟩:=f.at_ d;refine al ?_;refine bw (q:=k) dO rfl rfl rfl o aa aa ?_;refine a7 bM rfl rfl (λw' a=>a.ct (p 0 _ rfl) av) ?_;refine al ?_;refine ao rfl vA rfl (λw' a=>vz w' (h.ext a.ext) x n) ?_;refine ar ?_;intro y z B;refine gv D1 rfl rfl rfl bi (λ_=>by exact cA) rfl (im rfl) (by simp only[maxLen];omega) aa (λr C=>?_);refine aL ?_;refine bg (k+1,r) bm bm (cw rfl rfl rfl rfl) (λw' a=>?_);dsimp only;rw[gk,d,pt,gf,lI,List.map_nil,bx.hk];exact a;obtain rfl:k=m:=by omega
 rw[ez aa];refine aL ?_;refine ao rfl If rfl (λw' a=>Ig w' _ _ _ (l.map Lib.itoa) [59] (a.has Has.head) (by simp;omega) aa (by show (gY l).length≤_;omega)) ?_;refine ax ?_;intro D b;exact⟨rfl,b.ext⟩
def eU (n:Int):Nat:=(max 0 (min n 1000)).toNat
theorem TP (n:Int):max 0 (min n 1000)=(eU n:Int):=by unfold eU;omega
theorem l9 (n:Int):eU n≤1000:=by unfold eU;omega
theorem tx (w:World) (n:Int):Calls prog 277 [.int .i64 n].toArray w (λe w'=>e= .returned (.int .i64 (eU n:Int))∧Ext [] w w'):=by
 refine aW func277 ntmps277 ?_;refine cI ?_;intro b a;exact⟨by rw[←TP],a.ext⟩
theorem ru {n:Nat} (h:n≤1001): (Lib.decDigits n).length≤21:=Ib aa
def yk (p:Bool) (y x:Nat):List UInt8:=[27,91]++(if p then [63] else [])++Lib.decDigits (y+1)++[59]++Lib.decDigits (x+1)++[82]
def yl (r c:Nat):List UInt8:=[27,91,56,59]++Lib.decDigits r++[59]++Lib.decDigits c++[116]
theorem TQ (a:Nat):gY [(a:Int)]=Lib.decDigits a:=by
 simp only[gY,lI,List.map_nil,Lib.join_one,Lib.itoa_nonneg]
theorem B6 (a b:Nat):gY [(a:Int),(b:Int)]=Lib.decDigits a++[59]++Lib.decDigits b:=by
 simp[gY,Lib.join,List.intercalate,Lib.itoa_nonneg]
theorem Ih (a b c:Nat):gY [(a:Int),(b:Int),(c:Int)]=Lib.decDigits a++[59]++Lib.decDigits b++[59]++Lib.decDigits c:=by
 simp[gY,Lib.join,List.intercalate,Lib.itoa_nonneg]
theorem Ii (w:World) (c:fy w) (y x:Int) (p:Bool):Calls prog 246 [.int .i64 y,.int .i64 x,.bool p].toArray w (λe w'=>e= .returned (.string (bs (yk p (eU y) (eU x))))∧Ext [] w w'):=by
 have i:=l9 y
 have j:=l9 x
 refine aW func246 ntmps246 ?_;refine bp ?_;refine ou ([(0,.int .i64 y),(1,.int .i64 x),(7,.string (bs (if p then [63] else [])))]) (af w [] []) ?_ ?_;refine ax ?_;refine b6 rfl (λa=>?_) (λa=>?_);refine ah ?_;rw[ay a];exact gw (ef rfl rfl rfl) (λ_ h=>h);refine ar ?_;rw[ag (by simp[a])];exact gw (ef rfl rfl rfl) (λ_ h=>h);have k: (if p then ([63]:List UInt8) else []).length≤1:=by split <;> simp
 generalize d: (if p then ([63]:List UInt8) else [])=l at *
 refine aq ?_;have m:=ru (n:=eU y+1) aa
 have o:=ru (n:=eU x+1) aa
 refine aq ?_;refine eF rfl rfl rfl b7 ?_;refine ar ?_;refine ao rfl sr rfl (λw' _=>tx w' y) ?_;refine aq ?_;refine ao rfl sr rfl (λw' _=>tx w' x) ?_;refine aq ?_;intro q r s;refine ao rfl sp rfl (λw' b=>qj w' (c.ext b.ext) _ _ _ _ [((eU y+1 :Nat):Int),((eU x+1 :Nat):Int)] (Rd.ho (E:=bX) b Has.head rfl aZ) aZ (by intro z f;simp at f;omega)) ?_;rw[B6];refine eF rfl rfl rfl b7 ?_;refine eF rfl rfl rfl b7 ?_;refine ax ?_;intro t g;refine⟨?_,g.ext⟩;rw[yk,d];simp
theorem p0 (w:World) (b:fy w) (y x:Int):Calls prog 268 [.int .i64 y,.int .i64 x].toArray w (λe w'=>e= .returned (.string (bs (yl (eU y) (eU x))))∧Ext [] w w'):=by
 have f:=l9 y
 have g:=l9 x
 refine aW func268 ntmps268 ?_;refine al ?_;have h:=ru (n:=8) aa
 have i:=ru (n:=eU y) aa
 have j:=ru (n:=eU x) aa
 refine aq ?_;refine ao rfl sr rfl (λw' _=>tx w' y) ?_;refine ar ?_;refine ao rfl sr rfl (λw' _=>tx w' x) ?_;refine ar ?_;intro k l m;refine ao rfl sp rfl (λw' a=>qj w' (b.ext a.ext) _ _ _ _ [((8 :Nat):Int),(eU y:Int),(eU x:Int)] (Rd.ho (E:=bX) a Has.head rfl aZ) aZ (by intro z c;simp at c;omega)) ?_;rw[Ih];refine eF rfl rfl rfl b7 ?_;refine eF rfl rfl rfl b7 ?_;refine ax ?_;intro o d;refine⟨?_,d.ext⟩;rw[yl,show Lib.decDigits 8=[56] from yj aZ];simp
theorem B7 {n:Nat} (h:n<10):Lib.decDigits n=[UInt8.ofNat (48+n)]:=yj h
theorem B8 {n:Nat} (a: ¬n<10) (b:n<100):Lib.decDigits n=[UInt8.ofNat (48+n/10),UInt8.ofNat (48+n%10)]:=by
 rw[TO a,yj aa];rfl
theorem Ij (w:World) (b:fy w):Calls prog 234 [].toArray w (λe w'=>e= .returned (.string (bs [27,91,63,54,50,59,50,50,99]))∧Ext [] w w'):=by
 refine aW func234 ntmps234 ?_;refine aL ?_;intro d f g;refine ao (v:= .string (bs [54,50,59,50,50])) rfl sp rfl (λw' a=>by have:=qj w' (b.ext a.ext) _ _ _ _ [((62 :Nat):Int),((22 :Nat):Int)] (Rd.ho (E:=bX) a Has.head rfl aZ) aZ aZ;rw[show gY [((62 :Nat):Int),((22 :Nat):Int)]=[54,50,59,50,50] from (by rw[B6,B8 (n:=62) aZ aZ,B8 (n:=22) aZ aZ];decide)] at this;exact this) ?_;refine eF rfl rfl rfl b7 ?_;refine eF rfl rfl rfl b7 ?_;refine ax ?_;intro h c;exact⟨rfl,c.ext⟩
theorem TR (w:World) (b:fy w):Calls prog 176 [].toArray w (λe w'=>e= .returned (.string (bs [27,91,62,49,59,49,48,59,48,99]))∧Ext [] w w'):=by
 refine aW func176 ntmps176 ?_;refine aL ?_;intro d f g;refine ao (v:= .string (bs [49,59,49,48,59,48])) rfl sp rfl (λw' a=>by have:=qj w' (b.ext a.ext) _ _ _ _ [((1 :Nat):Int),((10 :Nat):Int),((0 :Nat):Int)] (Rd.ho (E:=bX) a Has.head rfl aZ) aZ aZ;rw[show gY [((1 :Nat):Int),((10 :Nat):Int),((0 :Nat):Int)]=[49,59,49,48,59,48] from (by rw[Ih,B7 (n:=1) aZ,B8 (n:=10) aZ aZ,B7 (n:=0) aZ];decide)] at this;exact this) ?_;refine eF rfl rfl rfl b7 ?_;refine eF rfl rfl rfl b7 ?_;refine ax ?_;intro h c;exact⟨rfl,c.ext⟩
theorem TS (w:World) (b:fy w):Calls prog 266 [].toArray w (λe w'=>e= .returned (.string (bs [27,91,48,110]))∧Ext [] w w'):=by
 refine aW func266 ntmps266 ?_;refine aL ?_;intro d f g;refine ao (v:= .string (bs [48])) rfl sp rfl (λw' a=>by have:=qj w' (b.ext a.ext) _ _ _ _ [((0 :Nat):Int)] (Rd.ho (E:=bX) a Has.head rfl aZ) aZ aZ;rw[show gY [((0 :Nat):Int)]=[48] from (by rw[TQ,B7 (n:=0) aZ];decide)] at this;exact this) ?_;refine eF rfl rfl rfl b7 ?_;refine eF rfl rfl rfl b7 ?_;refine ax ?_;intro h c;exact⟨rfl,c.ext⟩
structure iT where
 di:Int
 fn:Int
 an:Int
 aM:Int
 fl:Int
deriving DecidableEq
abbrev tg (a:iT):Value:= .agg [.int .i64 a.di,.int .i64 a.fn,.int .i64 a.an,.int .i64 a.aM,.int .i64 a.fl].toArray
abbrev qf (k n:Int):Value:= .agg [.int .i64 k,.int .i64 n].toArray
def kd (k n:Int):Bool:=decide ((k=0∧n=0)∨(k=1∧0≤n∧n<256)∨(k=2∧0≤n∧n<16777216))
def jq (n f:Nat):Bool:=decide (n/f%2=1)
def fz (a:iT):Bool:=kd a.di a.fn && (kd a.an a.aM && decide (0≤a.fl∧a.fl<1024∧ ¬(jq a.fl.toNat 8=true∧jq a.fl.toNat 256=true)))
theorem Ik (w:World) (k n:Int):Calls prog 424 [qf k n].toArray w (λe w'=>e= .returned (.bool (kd k n))∧Ext [] w w'):=by
 refine aW func424 ntmps424 ?_;refine ah ?_;intro j l m;refine et ?_;refine aj (λf=>?_) (λf=>?_);refine bB ?_;intro b a;refine⟨?_,a.ext⟩;congr 2
 simp only[kd,hf];omega
 refine al ?_;refine aj (λg=>?_) (λg=>?_);refine al ?_;refine aX 15 rfl (λc=>?_) (λc=>?_);have h:=a1 c
 refine b_ ?_;intro b a;refine⟨?_,a.ext⟩;congr 2
 simp only[kd,hf];omega
 have h:=bc c
 refine bp ?_;intro b a;refine⟨?_,a.ext⟩;congr 2
 simp only[kd];rw[eq_comm,e1];omega
 refine al ?_;refine aj (λc=>?_) (λc=>?_);refine al ?_;refine aX 25 rfl (λd=>?_) (λd=>?_);have i:=a1 d
 refine b_ ?_;intro b a;refine⟨?_,a.ext⟩;congr 2
 simp only[kd,hf];omega
 have i:=bc d
 refine bp ?_;intro b a;refine⟨?_,a.ext⟩;congr 2
 simp only[kd];rw[eq_comm,e1];omega
 refine aR ?_;intro b a;refine⟨?_,a.ext⟩;congr 2
 simp only[kd];rw[eq_comm,e1];omega
theorem th {z:Int} (a:0≤z) (b:z<9223372036854775808):IntKind.i64.wrap z=z:=by simp[IntKind.wrap,IntKind.bits,IntKind.signed];omega
theorem TT {m:Nat} (h:m<18446744073709551616):IntKind.i64.wrap (m:Int)=0↔m=0:=by
 simp[IntKind.wrap,IntKind.bits,IntKind.signed];omega
theorem TU (x:BitVec 64): (x &&& ~~~ (1023#64)).toNat=0↔x.toNat<1024:=by
 constructor
 intro h;have a:x &&& ~~~ (1023#64)=0#64:=BitVec.eq_of_toNat_eq (by rw[h];rfl)
 refine Nat.lt_pow_two_of_testBit (n:=10) x.toNat λi hi=>?_
 by_cases c:i<64
 have b: (x &&& ~~~ (1023#64)).getLsbD i=(0#64).getLsbD i:=by rw[a]
 have d: (1023#64).getLsbD i=false:=by
  rw[BitVec.getLsbD_ofNat,un (ps (by decide:1023<2 ^ 10) (qJ aZ hi))];simp
 rw[BitVec.getLsbD_and,BitVec.getLsbD_not,d,b5 c,BitVec.getLsbD_zero] at b
 exact (qA _).symm.trans b;exact un (ps x.isLt (qJ aZ aa));intro h;have a:x &&& ~~~ (1023#64)=0#64:=by
  refine BitVec.eq_of_getLsbD_eq λi hi=>?_
  rw[BitVec.getLsbD_and,BitVec.getLsbD_not];by_cases e:i<10
  have: (1023#64).getLsbD i=true:=by
   rw[BitVec.getLsbD_ofNat];have: ∀i,i<10→(decide (i<64) && Nat.testBit 1023 i)=true:=by decide
   exact this i e
  simp[this]
  have:x.getLsbD i=false:=un (ps (show x.toNat<2 ^ 10 from h) (qJ aZ aa))
  simp[this]
 rw[a];rfl
theorem TV {fl:Int} (h: -9223372036854775808≤fl∧fl≤9223372036854775807):
 IntKind.i64.wrap ((BitVec.ofInt IntKind.i64.bits fl &&& ~~~ BitVec.ofInt IntKind.i64.bits 1023).toNat:Int)=0↔0≤fl∧fl<1024:=by
 rw[TT (BitVec.isLt _)];refine Iff.trans (TU (BitVec.ofInt 64 fl)) ?_;rw[BitVec.toNat_ofInt];omega
theorem TW: ∀m,m<1024→decide (((m &&& 264 :Nat):Int)≠264)= !(jq m 8 && jq m 256):=by decide+kernel
theorem TX {fl:Int} (h:0≤fl∧fl<1024):IntKind.i64.wrap ((BitVec.ofInt IntKind.i64.bits fl &&& BitVec.ofInt IntKind.i64.bits 264).toNat:Int)=((fl.toNat &&& 264 :Nat):Int):=
 and_eq (m:=fl.toNat) (n:=264) aa rfl (show fl.toNat<18446744073709551616 by omega) aZ (th aa (by
  have:=Nat.and_le_right (n:=fl.toNat) (m:=264)
  omega))
theorem TY (w:World) (h:fy w) (F:Nat→Prop) (A:Option Addr) (m c:Nat) (l:List Int) (f:Rd bX w F A m c l) (s:m≤1000) (g: ∀x∈l,-9223372036854775808≤x∧x≤9223372036854775807):
 Calls prog 362 [.slice A m c].toArray w (λe w'=>e= .returned (.string (bs (gY l)))∧Ext [] w w'):=by
 have t:=f.len
 have u:=B5 l g
 refine aW func362 ntmps362 ?_;refine bB ?_;refine jS 9 1 ?_;refine aD ?_;refine b1 (ι:=Nat × Value) (λk=>[(3,k.2),(6,.slice A m c),(7,.int .i64 (m:Int)),(8,.int .i64 (k.1 :Int))]) (λk=>af w [] [own 9 1 k.2 k.1 (jL.all ((l.take k.1).map Lib.itoa))]) (λk=>k.1≤m) (λk=>m - k.1) ?_ ?_;exact λw b=>⟨(0,.slice none 0 0),bP _,(cw rfl rfl rfl rfl),b⟩
 rintro⟨k,v⟩ i;dsimp only at i ⊢
 refine al ?_;refine aj (λj=>?_) (λj=>?_);obtain⟨x,d⟩ : ∃x,l[k]? = some x:=⟨l[k]'aa,bG _⟩;have n:=g x (dc d)
 obtain⟨b2,o,_,p⟩:=f.at_ d;refine al ?_;refine bw (q:=k) dO rfl rfl rfl o aa aa ?_;refine a7 bM rfl rfl (λw' a=>a.ct (p 0 _ rfl) av) ?_;refine al ?_;refine ao rfl vA rfl (λw' a=>vz w' (h.ext a.ext) x n) ?_;refine ar ?_;intro y z B;refine gv D1 rfl rfl rfl bi (λ_=>by exact cA) rfl (im rfl) (by simp only[maxLen];omega) aa (λr C=>?_);refine aL ?_;refine bg (k+1,r) bm bm (cw rfl rfl rfl rfl) (λw' a=>?_);dsimp only;rw[gk,d,pt,gf,lI,List.map_nil,bx.hk];exact a;obtain rfl:k=m:=by omega
 rw[ez aa];refine aL ?_;refine ao rfl If rfl (λw' a=>Ig w' _ _ _ (l.map Lib.itoa) [59] (a.has Has.head) (by simp;omega) aa (by show (gY l).length≤_;omega)) ?_;refine ax ?_;intro D b;exact⟨rfl,b.ext⟩
def kN (k n p:Int):List Int:=if k=1 then [p,5,n] else if k=2 then [p,2,n/65536,n/256%256,n%256] else []
theorem Il {z:Int} (h:0≤z∧z<16777216):IntKind.i64.wrap ((BitVec.ofInt IntKind.i64.bits z &&& BitVec.ofInt IntKind.i64.bits 255).toNat:Int)=z%256:=
 and_eq (m:=z.toNat) (n:=255) aa rfl (show z.toNat<18446744073709551616 by omega) aZ (by
  have e:z.toNat &&& 255=z.toNat%256:=Nat.and_two_pow_sub_one_eq_mod z.toNat 8
  rw[e,th aa aa];omega)
theorem Im (w:World) (k n p:Int) (h:0≤n∧n<16777216):Calls prog 361 [qf k n,.int .i64 p].toArray w (ik bX w (kN k n p)):=by
 refine aW func361 ntmps361 ?_;refine ah ?_;intro g i j;refine et ?_;refine aj (λb=>?_) (λb=>?_);refine al ?_;intro l m o;refine aD ?_;intro f a;rw[kN,ay b];have c:=Rd.ho (E:=bX) (L:=[p,5,n]) a Has.head rfl (by show 3≤maxLen;decide)
 exact⟨_,_,_,rfl,a.ext,c.dJ (λk d=>by rw[d];assumption)⟩;refine al ?_;refine aj (λe=>?_) (λe=>?_);refine ax ?_;refine pT (r:=n/65536) rfl rfl rfl aZ bb ?_;refine aq ?_;refine pT (r:=n/256) rfl rfl rfl aZ bb ?_;refine q1 (r:=n/256%256) rfl rfl rfl (Il aa) ?_;refine aq ?_;refine q1 (r:=n%256) rfl rfl rfl (Il h) ?_;refine ar ?_;intro q s t;refine aD ?_;intro f a;rw[kN,ag b,ay e];have c:=Rd.ho (E:=bX) (L:=[p,2,n/65536,n/256%256,n%256]) a Has.head rfl (by show 5≤maxLen;decide)
 exact⟨_,_,_,rfl,a.ext,c.dJ (λk d=>by rw[d];assumption)⟩;refine aR ?_;intro f a;rw[kN,ag b,ag e];exact⟨none,0,0,rfl,a.ext,Rd.nil bX _ _ 0 aZ none⟩
def ny:bx (Nat × Nat):=⟨λp=>[.int .i64 (p.1 :Int),.int .i64 (p.2 :Int)],2,λ_=>rfl,λ_=>by repeat (first | exact aH.nil | refine aH.cons rfl ?_)⟩
def nU:List (Nat × Nat):=[(1,1),(2,2),(3,4),(4,8),(5,16),(7,32),(8,64),(9,128),(21,256),(53,512)]
def kO (fl k:Nat):List Int:=((nU.take k).filter (λp=>jq fl p.2)).map (λp=>(p.1 :Int))
theorem In {fl k:Nat} {p:Nat × Nat} (h:nU[k]? = some p):kO fl (k+1)=if jq fl p.2=true then kO fl k++[(p.1 :Int)] else kO fl k:=by
 unfold kO;rw[kx h,List.filter_append,gf];by_cases a:jq fl p.2=true <;> simp[a]
theorem B9 (fl k:Nat): (kO fl k).length≤10:=by
 unfold kO;rw[cT];have a:=List.length_filter_le (λp=>jq fl p.2) (nU.take k)
 have b: (nU.take k).length≤10:=by rw[dv];exact Nat.min_le_right _ _
 omega
theorem Io: ∀p∈nU,∀n,n<1024→decide (((n &&& p.2 :Nat):Int)≠0)=jq n p.2:=by decide+kernel
theorem Ip: ∀p∈nU,p.2<1024∧p.1<1024:=by decide
theorem TZ {n f:Nat} (a:n<1024) (b:f<1024):IntKind.i64.wrap ((BitVec.ofInt IntKind.i64.bits (n:Int) &&& BitVec.ofInt IntKind.i64.bits (f:Int)).toNat:Int)=((n &&& f:Nat):Int):=
 and_eq (m:=n) (n:=f) rfl rfl (show n<18446744073709551616 by omega) (show f<18446744073709551616 by omega) (th (rP _) (by have:=Nat.and_le_left (n:=n) (m:=f);omega))
def mV (a:iT):List Int:=0::kO a.fl.toNat 10++kN a.di a.fn 38++kN a.an a.aM 48
def nV (a:iT):List UInt8:=if fz a=true then gY (mV a) else []
theorem ym {k n:Int} (h:kd k n=true):0≤n∧n<16777216:=by
 unfold kd at h
 have:=a1 h
 omega
theorem yn (k n p:Int): (kN k n p).length≤5:=by unfold kN;split <;> (try split) <;> simp
theorem Iq {di fn an aM:Int} {fl:Nat} (b:kd di fn=true) (c:kd an aM=true) (e:fl<1024): ∀x∈mV ⟨di,fn,an,aM,(fl:Int)⟩,-9223372036854775808≤x∧x≤9223372036854775807:=by
 have ai: ∀k n p:Int,0≤n∧n<16777216→0≤p∧p≤100→ ∀x∈kN k n p,-9223372036854775808≤x∧x≤9223372036854775807:=by
  intro k n p f ai x a;unfold kN at a
  split at a
  simp only[eZ,List.not_mem_nil,or_false] at a
  omega
  split at a
  simp only[eZ,List.not_mem_nil,or_false] at a
  omega
  cases a
 intro x a;rw[mV] at a
 rcases db.1 a with a | a
 rcases db.1 a with a | a
 rcases eZ.1 a with rfl | a
 omega
 obtain⟨p,d,rfl⟩:=dX.1 a;have:=(Ip p (iD (List.mem_filter.1 d).1)).2
 omega
 exact ai _ _ _ (ym b) aa x a;exact ai _ _ _ (ym c) aa x a
def B_ (l:List Int):List UInt8:=l.flatMap (λx=>59::Lib.itoa x)
theorem T0 (x:Int) (l:List Int):gY (x::l)=Lib.itoa x++B_ l:=by
 induction l generalizing x with
 | nil=>simp[gY,B_,Lib.join,List.intercalate]
 | cons y l a=>
  have b:gY (x::y::l)=Lib.itoa x++59::gY (y::l):=by
   simp[gY,Lib.join,List.intercalate]
  rw[b,a y];simp[B_]
theorem T1:Lib.itoa 0=[48]:=by
 rw[show (0 :Int)=((0 :Nat):Int) from rfl,Lib.itoa_nonneg,yj aZ];rfl
def rv (name:List UInt8) (a:iT) (t b:Nat):List UInt8:=
 if name=[109] then [27,80,49,36,114]++(if fz a=true then nV a else [48])++[109,27,92]
 else if name=[114] then [27,80,49,36,114]++Lib.decDigits (t+1)++[59]++Lib.decDigits (b+1)++[114,27,92]
 else [27,80,48,36,114,27,92]
theorem Ir (a:iT): (nV a).length≤500:=by
 by_cases b:fz a=true
 have c:=b
 obtain⟨di,fn,an,aM,d⟩:=a;simp only[fz,d_,e2] at c
 obtain⟨e,f,g,h,_⟩:=c;obtain⟨fl,rfl⟩ : ∃m:Nat,d=m:=⟨d.toNat,aa⟩;have i:=B5 _ (Iq e f (fl:=fl) aa)
 have j:=B9 fl 10
 have k:=yn di fn 38
 have l:=yn an aM 48
 have n: (mV ⟨di,fn,an,aM,(fl:Int)⟩).length≤21:=by
  simp only[mV,hc,b8,eK];omega
 rw[nV,ay b];omega
 rw[nV,ag b];simp
theorem T2 {a:iT} (h:fz a=true):nV a≠[]:=by
 rw[nV,ay h,mV,mq,mq,T0,T1];simp
def W (a:iT):iT:={ a with fl:=IntKind.i64.wrap a.fl }
theorem yo (a:iT):fz (W a)=(kd a.di a.fn && (kd a.an a.aM && decide (0≤IntKind.i64.wrap a.fl∧IntKind.i64.wrap a.fl<1024∧ ¬(jq (IntKind.i64.wrap a.fl).toNat 8=true∧jq (IntKind.i64.wrap a.fl).toNat 256=true)))):=rfl
theorem T3 (z:Int): -9223372036854775808≤IntKind.i64.wrap z∧IntKind.i64.wrap z≤9223372036854775807:=by
 simp[IntKind.wrap,IntKind.bits,IntKind.signed];omega
theorem Ca (z:Int):BitVec.ofInt IntKind.i64.bits (IntKind.i64.wrap z)=BitVec.ofInt IntKind.i64.bits z:=by
 apply BitVec.eq_of_toNat_eq
 rw[BitVec.toNat_ofInt,BitVec.toNat_ofInt];congr 1
 simp[IntKind.wrap,IntKind.bits,IntKind.signed]
 omega
theorem Is {fl:Int}:IntKind.i64.wrap ((BitVec.ofInt IntKind.i64.bits fl &&& ~~~ BitVec.ofInt IntKind.i64.bits 1023).toNat:Int)=0↔0≤IntKind.i64.wrap fl∧IntKind.i64.wrap fl<1024:=by
 rw[←Ca fl];exact TV (T3 fl)
theorem T4 {fl:Int} (h:0≤IntKind.i64.wrap fl∧IntKind.i64.wrap fl<1024):IntKind.i64.wrap ((BitVec.ofInt IntKind.i64.bits fl &&& BitVec.ofInt IntKind.i64.bits 264).toNat:Int)=(((IntKind.i64.wrap fl).toNat &&& 264 :Nat):Int):=by
 rw[←Ca fl];exact TX h
theorem T5 {a:Int} {fl p:Nat} (h:IntKind.i64.wrap a=(fl:Int)) (b:fl<1024) (ai:p<1024):IntKind.i64.wrap ((BitVec.ofInt IntKind.i64.bits a &&& BitVec.ofInt IntKind.i64.bits (p:Int)).toNat:Int)=((fl &&& p:Nat):Int):=by
 rw[←Ca a,h];exact TZ b ai
theorem T6 (w:World) (a:iT):Calls prog 360 [tg a].toArray w (λe w'=>e= .returned (.bool (fz (W a)))∧Ext [] w w'):=by
 refine aW func360 ntmps360 ?_;refine ah ?_;intro k l m;refine bB ?_;refine ao rfl Ff rfl (λw' _=>Ik w' a.di a.fn) ?_;refine ar ?_;refine aX 7 rfl (λf=>?_) (λf=>?_);refine ax ?_;refine ao rfl Ff rfl (λw' _=>Ik w' a.an a.aM) ?_;refine aq ?_;refine aX 12 rfl (λg=>?_) (λg=>?_);refine ax ?_;refine uK rfl rfl rfl rfl ?_;refine aS ?_;refine aX 18 rfl (λh=>?_) (λh=>?_);have i:=a1 h
 have c:=Is.1 i
 refine aD ?_;refine q1 rfl rfl rfl (T4 c) ?_;refine aR ?_;intro j b;refine⟨?_,b.ext⟩;congr 2
 rw[TW _ aa,yo,f,g];simp[c.1,c.2]
 have i:=bc h
 refine bB ?_;intro j b;refine⟨?_,b.ext⟩;congr 2
 have c: ¬(0≤IntKind.i64.wrap a.fl∧IntKind.i64.wrap a.fl<1024):=λd=>i (Is.2 d)
 rw[yo,eq_comm,ud,ud,e1];exact .inr (.inr λd=>c ⟨d.1,d.2.1⟩);refine e4 ?_;intro j b;exact⟨by rw[yo,g];simp,b.ext⟩;refine oD ?_;intro j b;exact⟨by rw[yo,f];simp,b.ext⟩
theorem T7 (w:World) (V:fy w) (a:iT):
 Calls prog 276 [tg a].toArray w (λe w'=>e= .returned (.string (bs (nV (W a))))∧Ext [] w w'):=by
 refine aW func276 ntmps276 ?_;refine ah ?_;intro A Zu B;refine aD ?_;refine ao rfl Ot rfl (λw' _=>T6 w' a) ?_;refine ah ?_;refine b6 rfl (λh=>?_) (λh=>?_);refine aL ?_;intro X i;exact⟨by rw[nV,ag (by simpa using h)],i.ext⟩;have C:fz (W a)=true:=by simpa using h
 rw[nV,ay C];obtain⟨di,fn,an,aM,f⟩:=a;have D:=C
 simp only[fz,d_,e2] at D
 obtain⟨F,G,Y,B,_⟩:=D;dsimp only[W] at Y B
 obtain⟨fl,H⟩ : ∃m:Nat,IntKind.i64.wrap f=m:=⟨(IntKind.i64.wrap f).toNat,aa⟩;have Z:W ⟨di,fn,an,aM,f⟩=⟨di,fn,an,aM,(fl:Int)⟩:=by simp only[W,H]
 rw[Z];have g:fl<1024:=by omega
 refine ax ?_;intro Zv Zw Zx;refine ax ?_;refine O_ (m:=1) (sz:=1) cA rfl aZ ?_;refine bB ?_;intro I Zy Zz;refine ax ?_;refine b1 (ι:=Nat × Value) (λt=>[(1,.pointer (some ⟨A,0,none⟩)),(3,t.2),(20,.slice (some ⟨I,0,none⟩) 10 10),(21,.int .i64 10),(22,.int .i64 (t.1 :Int))]) (λt=>af w [] [aE I (ny.all nU) 227,own 3 1 t.2 (0::kO fl t.1).length (bX.all (0::kO fl t.1)),aE A [.int .i64 di,.int .i64 fn,.int .i64 an,.int .i64 aM,.int .i64 f] 88]) (λt=>t.1≤10) (λt=>10 - t.1) ?_ ?_;exact λw' b=>⟨(0,_),bP _,(ea rfl rfl rfl rfl rfl),b⟩
 rintro⟨k,u⟩ l;dsimp only at l ⊢
 refine al ?_;refine aj (λc=>?_) (λc=>?_);obtain⟨p,ai⟩ : ∃p,nU[k]? = some p:=⟨nU[k]'(by show k<10;omega),bG _⟩;have n:=dc ai
 have Za:=Ip p n
 have Zb:=B9 fl k
 have Zc: (0::kO fl k).length≤11:=by simp only[eK];omega
 refine al ?_;refine bw (q:=k) sl rfl rfl rfl bb aa aa ?_;refine cy zx rfl rfl (rfl) (λw' b j v Zd=>by obtain⟨b2,Ze,_,Zf⟩:=(Rd.ho (E:=ny) (L:=nU) b Has.head rfl aZ).at_ ai;cases Ze;exact Zf j v Zd) ?_;refine ar ?_;intro ZA ZB ZC;refine aD ?_;refine qN (q:=1) underlying227 gA rfl rfl rfl aa aa ?_;refine a7 bM rfl rfl (λw' b=>b.ep Has.head rfl) ?_;refine q1 (r:=((fl &&& p.2 :Nat):Int)) rfl rfl rfl (T5 H g Za.1) ?_;refine ah ?_;refine aj (λo=>?_) (λo=>?_);have s:jq fl p.2=true:=by rw[←Io p n fl g];exact b5 o
 refine aq ?_;refine qN (q:=0) underlying227 gA rfl rfl rfl aa aa ?_;refine a7 bM rfl rfl (λw' b=>b.ep Has.head rfl) ?_;refine ar ?_;intro ZD ZE ZF;refine gv dO rfl rfl rfl bi (λ_=>by exact ld) rfl (im rfl) (by simp only[maxLen];omega) aa (λZg ZG=>?_);refine aL ?_;refine bg (k+1,Zg) bm bm (ea rfl rfl rfl rfl rfl) (λw' b=>?_);dsimp only;rw[In ai,ay s,←mq,bx.hk bX,b8];exact b.rem bv.head;have s: ¬jq fl p.2=true:=by rw[←Io p n fl g];simpa using o
 refine aD ?_;refine bg (k+1,u) bm bm (ea rfl rfl rfl rfl rfl) (λw' b=>?_);dsimp only;rw[In ai,ag s];exact b.rem bv.head;have Zh:k=10:=by omega
 subst Zh;have Zb:=B9 fl 10
 have Zc: (0::kO fl 10).length≤11:=by simp only[eK];omega
 have ZH:=yn di fn 38
 have ZI:=yn an aM 48
 refine aR ?_;refine wD rfl E6 rfl (λw' b=>Im w' di fn 38 (ym F)) (λZJ J ZK K ZL M Zi ZM Zj N=>?_);have Zk:=N.len
 have O:Ext [] w J:=M.ext.dZ Zi
 have y:=M.ei
 have ZN:=O.size
 refine nc (E:=bX) (src:=kN di fn 38) dO rfl rfl rfl (λ_=>by exact er) (λw' b=>N.ext b.ext (λk l z=>by have:=Zj k z;omega)) (by simp only[maxLen];omega) aa (λZO ZP=>?_);refine aL ?_;refine wD rfl E6 rfl (λw' b=>Im w' an aM 48 (ym G)) (λZQ P ZR n6 ZS Q Zl ZT Zm R=>?_);have Zn:=R.len
 have S:=Q.ei
 have Zo:Ext _ J P:=Q.ext.dZ Zl
 have T:Ext [] w P:=O.trans Zo (λx d c=>y x d c)
 refine nc (E:=bX) (src:=kN an aM 48) dO rfl rfl rfl (λ_=>by exact er) (λw' b=>R.ext b.ext (λk l z=>by have:=Zm k z;omega)) (by simp only[maxLen];omega) aa (λZp ZU=>?_);refine iI (v:=Zp) (Has.tail Has.head) (λZV ZW Zq _ _ _ _=>?_);subst Zq;have d: (0::kO fl 10).length+K+n6≤1000:=by omega
 refine ao (v:= .string (bs (gY (mV ⟨di,fn,an,aM,(fl:Int)⟩)))) rfl Ou rfl (λw' b=>?_) ?_;have U:=b.has (Has.tail Has.head)
 rw[show bX.all (0::kO fl 10)++bX.all (kN di fn 38)++bX.all (kN an aM 48)=bX.all (mV ⟨di,fn,an,aM,(fl:Int)⟩) from by simp only[mV,bx.all_append];rfl] at U
 have Zr: (mV ⟨di,fn,an,aM,(fl:Int)⟩).length=(0::kO fl 10).length+K+n6:=by
  rw[←Zk,←Zn,mV,b8,b8];rfl
 obtain⟨dF,c9,Zs,Zt⟩:=Rd.ga (E:=bX) U Zr;cases Zs
 exact TY w' (V.ext (T.trans b.ext (λx d c=>y x (S x d aa) c))) _ _ _ _ _ Zt d (Iq F G g);refine ax ?_;intro X i;exact⟨rfl,T.trans i.ext (λx d c=>y x (S x d aa) c)⟩
theorem T8 (w:World) (j:fy w) (name:List UInt8) (a:iT) (t b:Int):
 Calls prog 183 [.string (bs name),tg a,.int .i64 t,.int .i64 b].toArray w (λe w'=>e= .returned (.string (bs (rv name (W a) (eU t) (eU b))))∧Ext [] w w'):=by
 have m:=l9 t
 have o:=l9 b
 have p:=Ir (W a)
 refine aW func183 ntmps183 ?_;refine ah ?_;intro q r s;refine dx ?_;refine aj (λf=>?_) (λf=>?_);refine ah ?_;refine ao rfl NV rfl (λw' g=>T7 w' (j.ext g.ext) a) ?_;refine aR ?_;refine aj (λc=>?_) (λc=>?_);refine aD ?_;refine eF rfl rfl rfl b7 ?_;refine eF rfl rfl rfl b7 ?_;refine eF rfl rfl rfl b7 ?_;refine aD ?_;intro i d;refine⟨?_,d.ext⟩;rw[rv,ay f,ag (λh=>T2 h c)];rfl
 refine ax ?_;refine eF rfl rfl rfl b7 ?_;refine eF rfl rfl rfl b7 ?_;refine eF rfl rfl rfl b7 ?_;refine aD ?_;intro i d;refine⟨?_,d.ext⟩;rw[rv,ay f,ay (by
  cases k:fz (W a) with
  | true=>rfl
  | false=>exact absurd (by rw[nV,ag (by simp[k])]) c)]
 simp
 refine al ?_;refine aj (λc=>?_) (λc=>?_);have u:=ru (n:=eU t+1) aa
 have v:=ru (n:=eU b+1) aa
 refine ah ?_;refine ao rfl sr rfl (λw' _=>tx w' t) ?_;refine aq ?_;refine ao rfl sr rfl (λw' _=>tx w' b) ?_;refine aq ?_;intro x y A;refine ao rfl sp rfl (λw' g=>qj w' (j.ext g.ext) _ _ _ _ [((eU t+1 :Nat):Int),((eU b+1 :Nat):Int)] (Rd.ho (E:=bX) g Has.head rfl aZ) aZ (by intro z l;simp at l;omega)) ?_;rw[B6];refine eF rfl rfl rfl b7 ?_;refine eF rfl rfl rfl b7 ?_;refine eF rfl rfl rfl b7 ?_;refine aD ?_;intro i d;refine⟨?_,d.ext⟩;rw[rv,ag f,ay c];simp
 refine aR ?_;intro i d;refine⟨?_,d.ext⟩;rw[rv,ag f,ag c]
end Go.Proofs.YtoghoobfpcadbaaGreatDoor.Mq.cW
