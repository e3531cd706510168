/- part 26 of the proof -/
import Derived.Test.YtlgnfdodnhokjaaGreatDoorQ10
import Derived.Shelf.Strconv.Itoa3
import Derived.Lib.ItoaLen
import Derived.Shelf.Strings.OnBuilder
namespace Go.Proofs.YtlgnfdodnhokjaaGreatDoor.Mq.cU
open Go Go.RowKit Go.Proofs Tryz
def Cf:Shelf.Ren:=⟨λ| 129=>294 | 171=>330 | 243=>389 | 246=>421 | 283=>440 | 284=>441 | 285=>442 | 286=>443 | 317=>456 | 318=>457 | 319=>458 | 320=>459 | 337=>469 | 338=>379 | n=>n,λ| 0=>0 | 2=>2 | 3=>3 | 4=>4 | 5=>5 | 9=>9 | 20=>20 | 37=>51 | 46=>268 | 51=>116 | 53=>54 | 171=>437 | 173=>439 | 212=>446 | 213=>447 | 232=>463 | 233=>427 | n=>n,λ| 17=>2 | 18=>7 | 19=>0 | n=>n⟩
theorem Cg:LaysM.n171 prog Cf where
 mixed:=by kernel_rfl
 f129:=func294.trans (aU some ab)
 f171:=func330.trans (aU some ab)
 f243:=func389.trans (aU some ab)
 f246:=func421.trans (aU some ab)
 f283:=func440.trans (aU some ab)
 f284:=func441.trans (aU some ab)
 f285:=func442.trans (aU some ab)
 f286:=func443.trans (aU some ab)
 f317:=func456.trans (aU some ab)
 f318:=func457.trans (aU some ab)
 f319:=func458.trans (aU some ab)
 f320:=func459.trans (aU some ab)
 f337:=func469.trans (aU some ab)
 f338:=func379.trans (aU some ab)
 t0:=underlying0
 a0:=isAgg0
 z0:=sizeOf0
 v0:=zeroValue0
 t2:=underlying2
 a2:=isAgg2
 z2:=sizeOf2
 v2:=zeroValue2
 t3:=underlying3
 a3:=isAgg3
 z3:=sizeOf3
 v3:=zeroValue3
 t4:=underlying4
 a4:=isAgg4
 z4:=sizeOf4
 v4:=zeroValue4
 t5:=underlying5
 a5:=isAgg5
 z5:=sizeOf5
 v5:=zeroValue5
 t9:=underlying9
 a9:=isAgg9
 z9:=sizeOf9
 v9:=zeroValue9
 t20:=underlying20
 a20:=isAgg20
 z20:=sizeOf20
 v20:=zeroValue20
 t37:=underlying51
 a37:=isAgg51
 z37:=sizeOf51
 v37:=zeroValue51
 t46:=underlying268
 a46:=isAgg268
 z46:=sizeOf268
 v46:=zeroValue268
 t51:=underlying116
 a51:=isAgg116
 z51:=sizeOf116
 v51:=zeroValue116
 t53:=underlying54
 a53:=isAgg54
 z53:=sizeOf54
 v53:=zeroValue54
 t171:=underlying437
 a171:=isAgg437
 z171:=sizeOf437
 v171:=zeroValue437
 t173:=underlying439
 a173:=isAgg439
 z173:=sizeOf439
 v173:=zeroValue439
 t212:=underlying446
 a212:=isAgg446
 z212:=sizeOf446
 v212:=zeroValue446
 t213:=underlying447
 a213:=isAgg447
 z213:=sizeOf447
 t232:=underlying463
 a232:=isAgg463
 z232:=sizeOf463
 v232:=zeroValue463
 t233:=underlying427
 a233:=isAgg427
 z233:=sizeOf427
 v233:=zeroValue427
 g17:=by kernel_rfl
 g18:=by kernel_rfl
 g19:=by kernel_rfl
 i0:=by kernel_rfl
 i2:=by kernel_rfl
 i3:=by kernel_rfl
 i4:=by kernel_rfl
 i5:=by kernel_rfl
 i9:=by kernel_rfl
 i20:=by kernel_rfl
 i37:=by kernel_rfl
 i46:=by kernel_rfl
 i51:=by kernel_rfl
 i53:=by kernel_rfl
 i171:=by kernel_rfl
 i173:=by kernel_rfl
 i212:=by kernel_rfl
 i232:=by kernel_rfl
 i233:=by kernel_rfl
 m17:=by kernel_rfl
 m18:=by kernel_rfl
 m19:=by kernel_rfl
def fF (w:World):Prop:=Lib.TabIs prog w "internal/strconv.uint64pow10" .u64 Lib.pow10Tab
theorem vJ {P:Program} {w w':World} {nm:String} {k:IntKind} {b:List Int} (h:Lib.TabIs P w nm k b) (c:Ext [] w w'):Lib.TabIs P w' nm k b:=by
 unfold Lib.TabIs World.var? at *
 obtain⟨g,d,a⟩:=lP.1 h;refine lP.2 ⟨g,d,?_⟩;have e:g<w.heap.size:=by
  rcases ej g w.heap.size with h | h
  exact h;rw[r2 h] at a;cases a
 rw[c.block g e av];exact a
theorem fF.ext {w w':World} (h:fF w) (a:Ext [] w w'):fF w':=vJ h a
theorem Ch (w:World) (k:Nat) (os:Array Obj):Ext [] w (Sort.grow (w.drewN k) os):=by
 refine⟨rfl,rfl,rfl,?_,λb a _=>?_⟩;show w.heap.size≤(w.heap++os).size
 simp
 show (w.heap++os)[b]? = w.heap[b]?
 rw[uk a]
theorem vK (w:World) (a:fF w) (n:Int) (h: -9223372036854775808≤n∧n≤9223372036854775807):
 Calls prog 330 [.int .i64 n].toArray w (λe w'=>e= .returned (.string (bs (Lib.itoa n)))∧Ext [] w w'):=by
 refine Calls.mono (Any.strconv_Itoa Cg n h.1 h.2 w a) ?_;rintro e w' ⟨rfl,k,os,rfl⟩;exact⟨rfl,Ch w k os⟩
theorem vL:ad prog 330:=ad.of func330 ab ab
theorem yv {u:Nat} (h:u<10):Lib.decDigits u=[UInt8.ofNat (48+u)]:=by rw[Lib.decDigits,dif_pos h]
theorem Uu {u:Nat} (h: ¬u<10):Lib.decDigits u=Lib.decDigits (u/10)++[UInt8.ofNat (48+u%10)]:=by rw[Lib.decDigits,dif_neg h]
theorem IQ {u:Nat} (h:u≤9223372036854775807): (Lib.decDigits u).length≤21:=by
 have:=Lib.itoa_length_le (u:Int) aa aa
 rwa [Lib.itoa_nonneg] at this
def IR:Shelf.Ren:=⟨λ| 156=>331 | 165=>390 | 166=>33 | 169=>34 | 240=>66 | 241=>422 | 276=>107 | 277=>444 | n=>n,λ| 0=>0 | 3=>3 | 4=>4 | 5=>5 | 9=>9 | 20=>20 | 31=>323 | 37=>51 | 70=>75 | 72=>77 | 75=>80 | 76=>81 | 80=>84 | 127=>155 | 164=>218 | n=>n,λn=>n⟩
theorem IS:Lays.n156 prog IR where
 mixed:=by kernel_rfl
 f156:=func331.trans (aU some ab)
 f165:=func390.trans (aU some ab)
 f166:=func33.trans (aU some ab)
 f169:=func34.trans (aU some ab)
 f240:=func66.trans (aU some ab)
 f241:=func422.trans (aU some ab)
 f276:=func107.trans (aU some ab)
 f277:=func444.trans (aU some ab)
 t0:=underlying0
 a0:=isAgg0
 z0:=sizeOf0
 v0:=zeroValue0
 t3:=underlying3
 a3:=isAgg3
 z3:=sizeOf3
 v3:=zeroValue3
 t4:=underlying4
 a4:=isAgg4
 z4:=sizeOf4
 v4:=zeroValue4
 t9:=underlying9
 a9:=isAgg9
 z9:=sizeOf9
 v9:=zeroValue9
 t20:=underlying20
 a20:=isAgg20
 z20:=sizeOf20
 v20:=zeroValue20
 t31:=underlying323
 a31:=isAgg323
 z31:=sizeOf323
 v31:=zeroValue323
 t37:=underlying51
 a37:=isAgg51
 z37:=sizeOf51
 v37:=zeroValue51
 t70:=underlying75
 a70:=isAgg75
 z70:=sizeOf75
 v70:=zeroValue75
 t72:=underlying77
 a72:=isAgg77
 z72:=sizeOf77
 v72:=zeroValue77
 t75:=underlying80
 a75:=isAgg80
 z75:=sizeOf80
 v75:=zeroValue80
 t76:=underlying81
 a76:=isAgg81
 z76:=sizeOf81
 v76:=zeroValue81
 t127:=underlying155
 a127:=isAgg155
 z127:=sizeOf155
 v127:=zeroValue155
 t164:=underlying218
 a164:=isAgg218
 z164:=sizeOf218
 v164:=zeroValue218
theorem IT:Builder.Extra prog IR where
 sizeBuilder:=by kernel_rfl
 liesBuilder:=by kernel_rfl
 t5:=underlying5
 a5:=isAgg5
 z5:=sizeOf5
 v5:=zeroValue5
 infoByte:=by kernel_rfl
 cellsByte:=by kernel_rfl
 sizeByte:=by kernel_rfl
 neB5:=aX ab
def jN:bA (List UInt8):=⟨λs=>[.string (bs s)],1,λ_=>rfl,λ_=>aI.cons rfl aI.nil⟩
theorem IU:ad prog 331:=ad.of func331 ab ab
theorem IV (w:World) (e m:Nat) (v:Value) (L:List (List UInt8)) (b:List UInt8) (h:w.ownsRow 0 e 1 v m (jN.all L)) (i:L.length=m) (y:m≤1000000) (n: (Lib.join L b).length≤140737488355328):
 Calls prog 331 [v,.string (bs b)].toArray w (λe w'=>e= .returned (.string (bs (Lib.join L b)))∧Ext [] w w'):=by
 rcases h.2 with ⟨rfl,o⟩ | ⟨g,cap,am,rfl,_,p,z,A,B,C⟩
 have q:L=[]:=iC (i.trans o)
 subst q;refine (Any.strings_Join_none IS IT none 0 (bs b) w).mono λe w' ⟨d,c⟩=>⟨?_,c▸Ext.refl _ _⟩
 rw[d];rfl
 have k: (L.map bs).map (λx:ByteArray=>x.data.toList)=L:=by
  rw[mC];conv=>rhs;rw[←List.map_id L]
  exact uq λs _=>rfl
 have l:=Any.strings_Join IS IT g 0 cap (L.map bs) (bs b) w (λj x a=>by
  rw[eD] at a
  cases f:L[j]? with
  | none=>rw[f] at a;simp at a
  | some s=>
   rw[f] at a
   simp only[oz,dA] at a
   subst a;have r:=jN.lQ (j:=0) (u:= .string (bs s)) f rfl
   have c: (jN.all L)[j]? = some (.string (bs s)):=by simpa [jN] using r
   have t:=h.cells (g:=g) rfl j _ c
   rwa [Addr.add_lit] at t)
  (lH.1 p).1 (by simp;omega) (by simp;omega) (by rw[k];exact n)
 rw[k,cB,i] at l
 exact l.mono λe w' ⟨d,c⟩=>⟨d,Ext.sk c⟩
def hf (l:List Int):List UInt8:=Lib.join (l.map Lib.itoa) [59]
theorem join_le (a:List UInt8) (k:Nat): ∀(L:List (List UInt8)),(∀s∈L,s.length≤k)→(Lib.join L a).length≤L.length*(k+a.length)
 | [],_=>by simp[Lib.join_nil]
 | x::r,h=>by
  rw[Lib.join_cons,b6];have f:=h x av
  have d: ∀(r:List (List UInt8)),(∀s∈r,s.length≤k)→(Lib.joinTail a r).length≤r.length*(k+a.length):=by
   intro r;induction r with
   | nil=>intro _;simp[Lib.joinTail]
   | cons y r e=>
    intro h;have c:=e (λs b=>h s (by simp[b]))
    have g:=h y av
    unfold Lib.joinTail at c ⊢
    rw[lM,List.flatten_cons,b6,b6,eO,Nat.add_one_mul];omega
  have c:=d r (λs b=>h s (by simp[b]))
  rw[eO,Nat.add_one_mul];omega
theorem Ck (l:List Int) (h: ∀x∈l,-9223372036854775808≤x∧x≤9223372036854775807): (hf l).length≤l.length*22:=by
 have:=join_le [59] 21 (l.map Lib.itoa) (λs b=>by
  obtain⟨x,a,rfl⟩:=dH.1 b;exact Lib.itoa_length_le x (h x a).1 (h x a).2)
 simpa [hf] using this
theorem qq (w:World) (h:fF w) (F:Nat→Prop) (A:Option Addr) (m c:Nat) (l:List Int) (f:Rd bT w F A m c l) (s:m≤1000) (g: ∀x∈l,-9223372036854775808≤x∧x≤9223372036854775807):
 Calls prog 240 [.slice A m c].toArray w (λe w'=>e= .returned (.string (bs (hf l)))∧Ext [] w w'):=by
 have t:=f.len
 have u:=Ck l g
 refine aV func240 ntmps240 ?_;refine bx ?_;refine jZ 9 1 ?_;refine aC ?_;refine b2 (ι:=Nat × Value) (λk=>[(3,k.2),(6,.slice A m c),(7,.int .i64 (m:Int)),(8,.int .i64 (k.1 :Int))]) (λk=>af w [] [own 9 1 k.2 k.1 (jN.all ((l.take k.1).map Lib.itoa))]) (λk=>k.1≤m) (λk=>m - k.1) ?_ ?_;exact λw b=>⟨(0,.slice none 0 0),bP _,(cj rfl rfl rfl rfl),b⟩
 rintro⟨k,v⟩ i;dsimp only at i ⊢
 refine al ?_;refine aj (λj=>?_) (λj=>?_);obtain⟨x,d⟩ : ∃x,l[k]? = some x:=⟨l[k]'aa,bE _⟩;have n:=g x (da d)
 obtain⟨bY,o,_,p⟩:=f.at_ d;refine al ?_;refine bC (q:=k) dL rfl rfl rfl o aa aa ?_;refine a_ bN rfl rfl (λw' a=>a.cu (p 0 _ rfl) av) ?_;refine al ?_;refine ao rfl vL rfl (λw' a=>vK w' (h.ext a.ext) x n) ?_;refine ar ?_;intro y z B;refine gx Ej rfl rfl rfl bj (λ_=>by exact cA) rfl (io rfl) (by simp only[maxLen];omega) aa (λr C=>?_);refine aK ?_;refine bi (k+1,r) bm bm (cj rfl rfl rfl rfl) (λw' a=>?_);dsimp only;rw[fR,d,pB,fQ,lM,List.map_nil,bA.hn];exact a;obtain rfl:k=m:=by omega
 rw[ev aa];refine aK ?_;refine ao rfl IU rfl (λw' a=>IV w' _ _ _ (l.map Lib.itoa) [59] (a.has Has.head) (by simp;omega) aa (by show (hf l).length≤_;omega)) ?_;refine ay ?_;intro D b;exact⟨rfl,b.ext⟩
def e0 (n:Int):Nat:=(max 0 (min n 1000)).toNat
theorem Uv (n:Int):max 0 (min n 1000)=(e0 n:Int):=by unfold e0;omega
theorem mf (n:Int):e0 n≤1000:=by unfold e0;omega
theorem tK (w:World) (n:Int):Calls prog 268 [.int .i64 n].toArray w (λe w'=>e= .returned (.int .i64 (e0 n:Int))∧Ext [] w w'):=by
 refine aV func268 ntmps268 ?_;refine cF ?_;intro b a;exact⟨by rw[←Uv],a.ext⟩
theorem rG {n:Nat} (h:n≤1001): (Lib.decDigits n).length≤21:=IQ aa
def yw (p:Bool) (y x:Nat):List UInt8:=[27,91]++(if p then [63] else [])++Lib.decDigits (y+1)++[59]++Lib.decDigits (x+1)++[82]
def yx (r c:Nat):List UInt8:=[27,91,56,59]++Lib.decDigits r++[59]++Lib.decDigits c++[116]
theorem Uw (a:Nat):hf [(a:Int)]=Lib.decDigits a:=by
 simp only[hf,lM,List.map_nil,Lib.join_one,Lib.itoa_nonneg]
theorem Cl (a b:Nat):hf [(a:Int),(b:Int)]=Lib.decDigits a++[59]++Lib.decDigits b:=by
 simp[hf,Lib.join,List.intercalate,Lib.itoa_nonneg]
theorem IW (a b c:Nat):hf [(a:Int),(b:Int),(c:Int)]=Lib.decDigits a++[59]++Lib.decDigits b++[59]++Lib.decDigits c:=by
 simp[hf,Lib.join,List.intercalate,Lib.itoa_nonneg]
theorem IX (w:World) (c:fF w) (y x:Int) (p:Bool):Calls prog 237 [.int .i64 y,.int .i64 x,.bool p].toArray w (λe w'=>e= .returned (.string (bs (yw p (e0 y) (e0 x))))∧Ext [] w w'):=by
 have i:=mf y
 have j:=mf x
 refine aV func237 ntmps237 ?_;refine bp ?_;refine oF ([(0,.int .i64 y),(1,.int .i64 x),(7,.string (bs (if p then [63] else [])))]) (af w [] []) ?_ ?_;refine ay ?_;refine b1 rfl (λa=>?_) (λa=>?_);refine ah ?_;rw[aw a];exact gy (em rfl rfl rfl) (λ_ h=>h);refine ar ?_;rw[ag (by simp[a])];exact gy (em rfl rfl rfl) (λ_ h=>h);have k: (if p then ([63]:List UInt8) else []).length≤1:=by split <;> simp
 generalize d: (if p then ([63]:List UInt8) else [])=l at *
 refine aq ?_;have m:=rG (n:=e0 y+1) aa
 have o:=rG (n:=e0 x+1) aa
 refine aq ?_;refine eJ rfl rfl rfl b4 ?_;refine ar ?_;refine ao rfl sF rfl (λw' _=>tK w' y) ?_;refine aq ?_;refine ao rfl sF rfl (λw' _=>tK w' x) ?_;refine aq ?_;intro q r s;refine ao rfl sD rfl (λw' b=>qq w' (c.ext b.ext) _ _ _ _ [((e0 y+1 :Nat):Int),((e0 x+1 :Nat):Int)] (Rd.hp (E:=bT) b Has.head rfl aZ) aZ (by intro z f;simp at f;omega)) ?_;rw[Cl];refine eJ rfl rfl rfl b4 ?_;refine eJ rfl rfl rfl b4 ?_;refine ay ?_;intro t g;refine⟨?_,g.ext⟩;rw[yw,d];simp
theorem p5 (w:World) (b:fF w) (y x:Int):Calls prog 259 [.int .i64 y,.int .i64 x].toArray w (λe w'=>e= .returned (.string (bs (yx (e0 y) (e0 x))))∧Ext [] w w'):=by
 have f:=mf y
 have g:=mf x
 refine aV func259 ntmps259 ?_;refine al ?_;have h:=rG (n:=8) aa
 have i:=rG (n:=e0 y) aa
 have j:=rG (n:=e0 x) aa
 refine aq ?_;refine ao rfl sF rfl (λw' _=>tK w' y) ?_;refine ar ?_;refine ao rfl sF rfl (λw' _=>tK w' x) ?_;refine ar ?_;intro k l m;refine ao rfl sD rfl (λw' a=>qq w' (b.ext a.ext) _ _ _ _ [((8 :Nat):Int),(e0 y:Int),(e0 x:Int)] (Rd.hp (E:=bT) a Has.head rfl aZ) aZ (by intro z c;simp at c;omega)) ?_;rw[IW];refine eJ rfl rfl rfl b4 ?_;refine eJ rfl rfl rfl b4 ?_;refine ay ?_;intro o d;refine⟨?_,d.ext⟩;rw[yx,show Lib.decDigits 8=[56] from yv aZ];simp
theorem Cm {n:Nat} (h:n<10):Lib.decDigits n=[UInt8.ofNat (48+n)]:=yv h
theorem Cn {n:Nat} (a: ¬n<10) (b:n<100):Lib.decDigits n=[UInt8.ofNat (48+n/10),UInt8.ofNat (48+n%10)]:=by
 rw[Uu a,yv aa];rfl
theorem IY (w:World) (b:fF w):Calls prog 225 [].toArray w (λe w'=>e= .returned (.string (bs [27,91,63,54,50,59,50,50,99]))∧Ext [] w w'):=by
 refine aV func225 ntmps225 ?_;refine aK ?_;intro d f g;refine ao (v:= .string (bs [54,50,59,50,50])) rfl sD rfl (λw' a=>by have:=qq w' (b.ext a.ext) _ _ _ _ [((62 :Nat):Int),((22 :Nat):Int)] (Rd.hp (E:=bT) a Has.head rfl aZ) aZ aZ;rw[show hf [((62 :Nat):Int),((22 :Nat):Int)]=[54,50,59,50,50] from (by rw[Cl,Cn (n:=62) aZ aZ,Cn (n:=22) aZ aZ];decide)] at this;exact this) ?_;refine eJ rfl rfl rfl b4 ?_;refine eJ rfl rfl rfl b4 ?_;refine ay ?_;intro h c;exact⟨rfl,c.ext⟩
theorem Ux (w:World) (b:fF w):Calls prog 180 [].toArray w (λe w'=>e= .returned (.string (bs [27,91,62,49,59,49,48,59,48,99]))∧Ext [] w w'):=by
 refine aV func180 ntmps180 ?_;refine aK ?_;intro d f g;refine ao (v:= .string (bs [49,59,49,48,59,48])) rfl sD rfl (λw' a=>by have:=qq w' (b.ext a.ext) _ _ _ _ [((1 :Nat):Int),((10 :Nat):Int),((0 :Nat):Int)] (Rd.hp (E:=bT) a Has.head rfl aZ) aZ aZ;rw[show hf [((1 :Nat):Int),((10 :Nat):Int),((0 :Nat):Int)]=[49,59,49,48,59,48] from (by rw[IW,Cm (n:=1) aZ,Cn (n:=10) aZ aZ,Cm (n:=0) aZ];decide)] at this;exact this) ?_;refine eJ rfl rfl rfl b4 ?_;refine eJ rfl rfl rfl b4 ?_;refine ay ?_;intro h c;exact⟨rfl,c.ext⟩
theorem Uy (w:World) (b:fF w):Calls prog 257 [].toArray w (λe w'=>e= .returned (.string (bs [27,91,48,110]))∧Ext [] w w'):=by
 refine aV func257 ntmps257 ?_;refine aK ?_;intro d f g;refine ao (v:= .string (bs [48])) rfl sD rfl (λw' a=>by have:=qq w' (b.ext a.ext) _ _ _ _ [((0 :Nat):Int)] (Rd.hp (E:=bT) a Has.head rfl aZ) aZ aZ;rw[show hf [((0 :Nat):Int)]=[48] from (by rw[Uw,Cm (n:=0) aZ];decide)] at this;exact this) ?_;refine eJ rfl rfl rfl b4 ?_;refine eJ rfl rfl rfl b4 ?_;refine ay ?_;intro h c;exact⟨rfl,c.ext⟩
structure iV where
 di:Int
 fn:Int
 an:Int
 aM:Int
 fl:Int
deriving DecidableEq
abbrev tw (a:iV):Value:= .agg [.int .i64 a.di,.int .i64 a.fn,.int .i64 a.an,.int .i64 a.aM,.int .i64 a.fl].toArray
abbrev ql (k n:Int):Value:= .agg [.int .i64 k,.int .i64 n].toArray
def kh (k n:Int):Bool:=decide ((k=0∧n=0)∨(k=1∧0≤n∧n<256)∨(k=2∧0≤n∧n<16777216))
def jv (n f:Nat):Bool:=decide (n/f%2=1)
def fG (a:iV):Bool:=kh a.di a.fn && (kh a.an a.aM && decide (0≤a.fl∧a.fl<1024∧ ¬(jv a.fl.toNat 8=true∧jv a.fl.toNat 256=true)))
theorem IZ (w:World) (k n:Int):Calls prog 410 [ql k n].toArray w (λe w'=>e= .returned (.bool (kh k n))∧Ext [] w w'):=by
 refine aV func410 ntmps410 ?_;refine ah ?_;intro j l m;refine ey ?_;refine aj (λf=>?_) (λf=>?_);refine bx ?_;intro b a;refine⟨?_,a.ext⟩;congr 2
 simp only[kh,gQ];omega
 refine al ?_;refine aj (λg=>?_) (λg=>?_);refine al ?_;refine aW 15 rfl (λc=>?_) (λc=>?_);have h:=aX c
 refine b7 ?_;intro b a;refine⟨?_,a.ext⟩;congr 2
 simp only[kh,gQ];omega
 have h:=bd c
 refine bp ?_;intro b a;refine⟨?_,a.ext⟩;congr 2
 simp only[kh];rw[eq_comm,e2];omega
 refine al ?_;refine aj (λc=>?_) (λc=>?_);refine al ?_;refine aW 25 rfl (λd=>?_) (λd=>?_);have i:=aX d
 refine b7 ?_;intro b a;refine⟨?_,a.ext⟩;congr 2
 simp only[kh,gQ];omega
 have i:=bd d
 refine bp ?_;intro b a;refine⟨?_,a.ext⟩;congr 2
 simp only[kh];rw[eq_comm,e2];omega
 refine aQ ?_;intro b a;refine⟨?_,a.ext⟩;congr 2
 simp only[kh];rw[eq_comm,e2];omega
theorem tx {z:Int} (a:0≤z) (b:z<9223372036854775808):IntKind.i64.wrap z=z:=by simp[IntKind.wrap,IntKind.bits,IntKind.signed];omega
theorem Uz {m:Nat} (h:m<18446744073709551616):IntKind.i64.wrap (m:Int)=0↔m=0:=by
 simp[IntKind.wrap,IntKind.bits,IntKind.signed];omega
theorem UA (x:BitVec 64): (x &&& ~~~ (1023#64)).toNat=0↔x.toNat<1024:=by
 constructor
 intro h;have a:x &&& ~~~ (1023#64)=0#64:=BitVec.eq_of_toNat_eq (by rw[h];rfl)
 refine Nat.lt_pow_two_of_testBit (n:=10) x.toNat λi hi=>?_
 by_cases c:i<64
 have b: (x &&& ~~~ (1023#64)).getLsbD i=(0#64).getLsbD i:=by rw[a]
 have d: (1023#64).getLsbD i=false:=by
  rw[BitVec.getLsbD_ofNat,uy (pA (by decide:1023<2 ^ 10) (qR aZ hi))];simp
 rw[BitVec.getLsbD_and,BitVec.getLsbD_not,d,bX c,BitVec.getLsbD_zero] at b
 exact (qH _).symm.trans b;exact uy (pA x.isLt (qR aZ aa));intro h;have a:x &&& ~~~ (1023#64)=0#64:=by
  refine BitVec.eq_of_getLsbD_eq λi hi=>?_
  rw[BitVec.getLsbD_and,BitVec.getLsbD_not];by_cases e:i<10
  have: (1023#64).getLsbD i=true:=by
   rw[BitVec.getLsbD_ofNat];have: ∀i,i<10→(decide (i<64) && Nat.testBit 1023 i)=true:=by decide
   exact this i e
  simp[this]
  have:x.getLsbD i=false:=uy (pA (show x.toNat<2 ^ 10 from h) (qR aZ aa))
  simp[this]
 rw[a];rfl
theorem UB {fl:Int} (h: -9223372036854775808≤fl∧fl≤9223372036854775807):
 IntKind.i64.wrap ((BitVec.ofInt IntKind.i64.bits fl &&& ~~~ BitVec.ofInt IntKind.i64.bits 1023).toNat:Int)=0↔0≤fl∧fl<1024:=by
 rw[Uz (BitVec.isLt _)];refine Iff.trans (UA (BitVec.ofInt 64 fl)) ?_;rw[BitVec.toNat_ofInt];omega
theorem UC: ∀m,m<1024→decide (((m &&& 264 :Nat):Int)≠264)= !(jv m 8 && jv m 256):=by decide+kernel
theorem UD {fl:Int} (h:0≤fl∧fl<1024):IntKind.i64.wrap ((BitVec.ofInt IntKind.i64.bits fl &&& BitVec.ofInt IntKind.i64.bits 264).toNat:Int)=((fl.toNat &&& 264 :Nat):Int):=
 and_eq (m:=fl.toNat) (n:=264) aa rfl (show fl.toNat<18446744073709551616 by omega) aZ (tx aa (by
  have:=Nat.and_le_right (n:=fl.toNat) (m:=264)
  omega))
theorem UE (w:World) (h:fF w) (F:Nat→Prop) (A:Option Addr) (m c:Nat) (l:List Int) (f:Rd bT w F A m c l) (s:m≤1000) (g: ∀x∈l,-9223372036854775808≤x∧x≤9223372036854775807):
 Calls prog 349 [.slice A m c].toArray w (λe w'=>e= .returned (.string (bs (hf l)))∧Ext [] w w'):=by
 have t:=f.len
 have u:=Ck l g
 refine aV func349 ntmps349 ?_;refine bx ?_;refine jZ 9 1 ?_;refine aC ?_;refine b2 (ι:=Nat × Value) (λk=>[(3,k.2),(6,.slice A m c),(7,.int .i64 (m:Int)),(8,.int .i64 (k.1 :Int))]) (λk=>af w [] [own 9 1 k.2 k.1 (jN.all ((l.take k.1).map Lib.itoa))]) (λk=>k.1≤m) (λk=>m - k.1) ?_ ?_;exact λw b=>⟨(0,.slice none 0 0),bP _,(cj rfl rfl rfl rfl),b⟩
 rintro⟨k,v⟩ i;dsimp only at i ⊢
 refine al ?_;refine aj (λj=>?_) (λj=>?_);obtain⟨x,d⟩ : ∃x,l[k]? = some x:=⟨l[k]'aa,bE _⟩;have n:=g x (da d)
 obtain⟨bY,o,_,p⟩:=f.at_ d;refine al ?_;refine bC (q:=k) dL rfl rfl rfl o aa aa ?_;refine a_ bN rfl rfl (λw' a=>a.cu (p 0 _ rfl) av) ?_;refine al ?_;refine ao rfl vL rfl (λw' a=>vK w' (h.ext a.ext) x n) ?_;refine ar ?_;intro y z B;refine gx Ej rfl rfl rfl bj (λ_=>by exact cA) rfl (io rfl) (by simp only[maxLen];omega) aa (λr C=>?_);refine aK ?_;refine bi (k+1,r) bm bm (cj rfl rfl rfl rfl) (λw' a=>?_);dsimp only;rw[fR,d,pB,fQ,lM,List.map_nil,bA.hn];exact a;obtain rfl:k=m:=by omega
 rw[ev aa];refine aK ?_;refine ao rfl IU rfl (λw' a=>IV w' _ _ _ (l.map Lib.itoa) [59] (a.has Has.head) (by simp;omega) aa (by show (hf l).length≤_;omega)) ?_;refine ay ?_;intro D b;exact⟨rfl,b.ext⟩
def kS (k n p:Int):List Int:=if k=1 then [p,5,n] else if k=2 then [p,2,n/65536,n/256%256,n%256] else []
theorem I0 {z:Int} (h:0≤z∧z<16777216):IntKind.i64.wrap ((BitVec.ofInt IntKind.i64.bits z &&& BitVec.ofInt IntKind.i64.bits 255).toNat:Int)=z%256:=
 and_eq (m:=z.toNat) (n:=255) aa rfl (show z.toNat<18446744073709551616 by omega) aZ (by
  have e:z.toNat &&& 255=z.toNat%256:=Nat.and_two_pow_sub_one_eq_mod z.toNat 8
  rw[e,tx aa aa];omega)
theorem I1 (w:World) (k n p:Int) (h:0≤n∧n<16777216):Calls prog 348 [ql k n,.int .i64 p].toArray w (il bT w (kS k n p)):=by
 refine aV func348 ntmps348 ?_;refine ah ?_;intro g i j;refine ey ?_;refine aj (λb=>?_) (λb=>?_);refine al ?_;intro l m o;refine aC ?_;intro f a;rw[kS,aw b];have c:=Rd.hp (E:=bT) (L:=[p,5,n]) a Has.head rfl (by show 3≤maxLen;decide)
 exact⟨_,_,_,rfl,a.ext,c.dC (λk d=>by rw[d];assumption)⟩;refine al ?_;refine aj (λe=>?_) (λe=>?_);refine ay ?_;refine pY (r:=n/65536) rfl rfl rfl aZ bc ?_;refine aq ?_;refine pY (r:=n/256) rfl rfl rfl aZ bc ?_;refine rb (r:=n/256%256) rfl rfl rfl (I0 aa) ?_;refine aq ?_;refine rb (r:=n%256) rfl rfl rfl (I0 h) ?_;refine ar ?_;intro q s t;refine aC ?_;intro f a;rw[kS,ag b,aw e];have c:=Rd.hp (E:=bT) (L:=[p,2,n/65536,n/256%256,n%256]) a Has.head rfl (by show 5≤maxLen;decide)
 exact⟨_,_,_,rfl,a.ext,c.dC (λk d=>by rw[d];assumption)⟩;refine aQ ?_;intro f a;rw[kS,ag b,ag e];exact⟨none,0,0,rfl,a.ext,Rd.nil bT _ _ 0 aZ none⟩
def nI:bA (Nat × Nat):=⟨λp=>[.int .i64 (p.1 :Int),.int .i64 (p.2 :Int)],2,λ_=>rfl,λ_=>by repeat (first | exact aI.nil | refine aI.cons rfl ?_)⟩
def n4:List (Nat × Nat):=[(1,1),(2,2),(3,4),(4,8),(5,16),(7,32),(8,64),(9,128),(21,256),(53,512)]
def kT (fl k:Nat):List Int:=((n4.take k).filter (λp=>jv fl p.2)).map (λp=>(p.1 :Int))
theorem I2 {fl k:Nat} {p:Nat × Nat} (h:n4[k]? = some p):kT fl (k+1)=if jv fl p.2=true then kT fl k++[(p.1 :Int)] else kT fl k:=by
 unfold kT;rw[kC h,List.filter_append,fQ];by_cases a:jv fl p.2=true <;> simp[a]
theorem Co (fl k:Nat): (kT fl k).length≤10:=by
 unfold kT;rw[cB];have a:=List.length_filter_le (λp=>jv fl p.2) (n4.take k)
 have b: (n4.take k).length≤10:=by rw[dl];exact Nat.min_le_right _ _
 omega
theorem I3: ∀p∈n4,∀n,n<1024→decide (((n &&& p.2 :Nat):Int)≠0)=jv n p.2:=by decide+kernel
theorem I4: ∀p∈n4,p.2<1024∧p.1<1024:=by decide
theorem UF {n f:Nat} (a:n<1024) (b:f<1024):IntKind.i64.wrap ((BitVec.ofInt IntKind.i64.bits (n:Int) &&& BitVec.ofInt IntKind.i64.bits (f:Int)).toNat:Int)=((n &&& f:Nat):Int):=
 and_eq (m:=n) (n:=f) rfl rfl (show n<18446744073709551616 by omega) (show f<18446744073709551616 by omega) (tx (r3 _) (by have:=Nat.and_le_left (n:=n) (m:=f);omega))
def na (a:iV):List Int:=0::kT a.fl.toNat 10++kS a.di a.fn 38++kS a.an a.aM 48
def n5 (a:iV):List UInt8:=if fG a=true then hf (na a) else []
theorem yy {k n:Int} (h:kh k n=true):0≤n∧n<16777216:=by
 unfold kh at h
 have:=aX h
 omega
theorem yz (k n p:Int): (kS k n p).length≤5:=by unfold kS;split <;> (try split) <;> simp
theorem I5 {di fn an aM:Int} {fl:Nat} (b:kh di fn=true) (c:kh an aM=true) (e:fl<1024): ∀x∈na ⟨di,fn,an,aM,(fl:Int)⟩,-9223372036854775808≤x∧x≤9223372036854775807:=by
 have ai: ∀k n p:Int,0≤n∧n<16777216→0≤p∧p≤100→ ∀x∈kS k n p,-9223372036854775808≤x∧x≤9223372036854775807:=by
  intro k n p f ai x a;unfold kS at a
  split at a
  simp only[e1,List.not_mem_nil,or_false] at a
  omega
  split at a
  simp only[e1,List.not_mem_nil,or_false] at a
  omega
  cases a
 intro x a;rw[na] at a
 rcases cZ.1 a with a | a
 rcases cZ.1 a with a | a
 rcases e1.1 a with rfl | a
 omega
 obtain⟨p,d,rfl⟩:=dH.1 a;have:=(I4 p (iE (List.mem_filter.1 d).1)).2
 omega
 exact ai _ _ _ (yy b) aa x a;exact ai _ _ _ (yy c) aa x a
def Cp (l:List Int):List UInt8:=l.flatMap (λx=>59::Lib.itoa x)
theorem UG (x:Int) (l:List Int):hf (x::l)=Lib.itoa x++Cp l:=by
 induction l generalizing x with
 | nil=>simp[hf,Cp,Lib.join,List.intercalate]
 | cons y l a=>
  have b:hf (x::y::l)=Lib.itoa x++59::hf (y::l):=by
   simp[hf,Lib.join,List.intercalate]
  rw[b,a y];simp[Cp]
theorem UH:Lib.itoa 0=[48]:=by
 rw[show (0 :Int)=((0 :Nat):Int) from rfl,Lib.itoa_nonneg,yv aZ];rfl
def rH (name:List UInt8) (a:iV) (t b:Nat):List UInt8:=
 if name=[109] then [27,80,49,36,114]++(if fG a=true then n5 a else [48])++[109,27,92]
 else if name=[114] then [27,80,49,36,114]++Lib.decDigits (t+1)++[59]++Lib.decDigits (b+1)++[114,27,92]
 else [27,80,48,36,114,27,92]
theorem I6 (a:iV): (n5 a).length≤500:=by
 by_cases b:fG a=true
 have c:=b
 obtain⟨di,fn,an,aM,d⟩:=a;simp only[fG,d4,e9] at c
 obtain⟨e,f,g,h,_⟩:=c;obtain⟨fl,rfl⟩ : ∃m:Nat,d=m:=⟨d.toNat,aa⟩;have i:=Ck _ (I5 e f (fl:=fl) aa)
 have j:=Co fl 10
 have k:=yz di fn 38
 have l:=yz an aM 48
 have n: (na ⟨di,fn,an,aM,(fl:Int)⟩).length≤21:=by
  simp only[na,fV,b6,eO];omega
 rw[n5,aw b];omega
 rw[n5,ag b];simp
theorem UI {a:iV} (h:fG a=true):n5 a≠[]:=by
 rw[n5,aw h,na,my,my,UG,UH];simp
def W (a:iV):iV:={ a with fl:=IntKind.i64.wrap a.fl }
theorem yA (a:iV):fG (W a)=(kh a.di a.fn && (kh a.an a.aM && decide (0≤IntKind.i64.wrap a.fl∧IntKind.i64.wrap a.fl<1024∧ ¬(jv (IntKind.i64.wrap a.fl).toNat 8=true∧jv (IntKind.i64.wrap a.fl).toNat 256=true)))):=rfl
theorem UJ (z:Int): -9223372036854775808≤IntKind.i64.wrap z∧IntKind.i64.wrap z≤9223372036854775807:=by
 simp[IntKind.wrap,IntKind.bits,IntKind.signed];omega
theorem Cq (z:Int):BitVec.ofInt IntKind.i64.bits (IntKind.i64.wrap z)=BitVec.ofInt IntKind.i64.bits z:=by
 apply BitVec.eq_of_toNat_eq
 rw[BitVec.toNat_ofInt,BitVec.toNat_ofInt];congr 1
 simp[IntKind.wrap,IntKind.bits,IntKind.signed]
 omega
theorem I7 {fl:Int}:IntKind.i64.wrap ((BitVec.ofInt IntKind.i64.bits fl &&& ~~~ BitVec.ofInt IntKind.i64.bits 1023).toNat:Int)=0↔0≤IntKind.i64.wrap fl∧IntKind.i64.wrap fl<1024:=by
 rw[←Cq fl];exact UB (UJ fl)
theorem UK {fl:Int} (h:0≤IntKind.i64.wrap fl∧IntKind.i64.wrap fl<1024):IntKind.i64.wrap ((BitVec.ofInt IntKind.i64.bits fl &&& BitVec.ofInt IntKind.i64.bits 264).toNat:Int)=(((IntKind.i64.wrap fl).toNat &&& 264 :Nat):Int):=by
 rw[←Cq fl];exact UD h
theorem UL {a:Int} {fl p:Nat} (h:IntKind.i64.wrap a=(fl:Int)) (b:fl<1024) (ai:p<1024):IntKind.i64.wrap ((BitVec.ofInt IntKind.i64.bits a &&& BitVec.ofInt IntKind.i64.bits (p:Int)).toNat:Int)=((fl &&& p:Nat):Int):=by
 rw[←Cq a,h];exact UF b ai
theorem UM (w:World) (a:iV):Calls prog 347 [tw a].toArray w (λe w'=>e= .returned (.bool (fG (W a)))∧Ext [] w w'):=by
 refine aV func347 ntmps347 ?_;refine ah ?_;intro k l m;refine bx ?_;refine ao rfl Fz rfl (λw' _=>IZ w' a.di a.fn) ?_;refine ar ?_;refine aW 7 rfl (λf=>?_) (λf=>?_);refine ay ?_;refine ao rfl Fz rfl (λw' _=>IZ w' a.an a.aM) ?_;refine aq ?_;refine aW 12 rfl (λg=>?_) (λg=>?_);refine ay ?_;refine uT rfl rfl rfl rfl ?_;refine aS ?_;refine aW 18 rfl (λh=>?_) (λh=>?_);have i:=aX h
 have c:=I7.1 i
 refine aC ?_;refine rb rfl rfl rfl (UK c) ?_;refine aQ ?_;intro j b;refine⟨?_,b.ext⟩;congr 2
 rw[UC _ aa,yA,f,g];simp[c.1,c.2]
 have i:=bd h
 refine bx ?_;intro j b;refine⟨?_,b.ext⟩;congr 2
 have c: ¬(0≤IntKind.i64.wrap a.fl∧IntKind.i64.wrap a.fl<1024):=λd=>i (I7.2 d)
 rw[yA,eq_comm,um,um,e2];exact .inr (.inr λd=>c ⟨d.1,d.2.1⟩);refine eR ?_;intro j b;exact⟨by rw[yA,g];simp,b.ext⟩;refine oP ?_;intro j b;exact⟨by rw[yA,f];simp,b.ext⟩
theorem UN (w:World) (V:fF w) (a:iV):
 Calls prog 267 [tw a].toArray w (λe w'=>e= .returned (.string (bs (n5 (W a))))∧Ext [] w w'):=by
 refine aV func267 ntmps267 ?_;refine ah ?_;intro A Zu B;refine aC ?_;refine ao rfl O1 rfl (λw' _=>UM w' a) ?_;refine ah ?_;refine b1 rfl (λh=>?_) (λh=>?_);refine aK ?_;intro X i;exact⟨by rw[n5,ag (by simpa using h)],i.ext⟩;have C:fG (W a)=true:=by simpa using h
 rw[n5,aw C];obtain⟨di,fn,an,aM,f⟩:=a;have D:=C
 simp only[fG,d4,e9] at D
 obtain⟨F,G,Y,B,_⟩:=D;dsimp only[W] at Y B
 obtain⟨fl,H⟩ : ∃m:Nat,IntKind.i64.wrap f=m:=⟨(IntKind.i64.wrap f).toNat,aa⟩;have Z:W ⟨di,fn,an,aM,f⟩=⟨di,fn,an,aM,(fl:Int)⟩:=by simp only[W,H]
 rw[Z];have g:fl<1024:=by omega
 refine ay ?_;intro Zv Zw Zx;refine ay ?_;refine PH (m:=1) (sz:=1) cA rfl aZ ?_;refine bx ?_;intro I Zy Zz;refine ay ?_;refine b2 (ι:=Nat × Value) (λt=>[(1,.pointer (some ⟨A,0,none⟩)),(3,t.2),(20,.slice (some ⟨I,0,none⟩) 10 10),(21,.int .i64 10),(22,.int .i64 (t.1 :Int))]) (λt=>af w [] [aD I (nI.all n4) 153,own 3 1 t.2 (0::kT fl t.1).length (bT.all (0::kT fl t.1)),aD A [.int .i64 di,.int .i64 fn,.int .i64 an,.int .i64 aM,.int .i64 f] 125]) (λt=>t.1≤10) (λt=>10 - t.1) ?_ ?_;exact λw' b=>⟨(0,_),bP _,(ec rfl rfl rfl rfl rfl),b⟩
 rintro⟨k,u⟩ l;dsimp only at l ⊢
 refine al ?_;refine aj (λc=>?_) (λc=>?_);obtain⟨p,ai⟩ : ∃p,n4[k]? = some p:=⟨n4[k]'(by show k<10;omega),bE _⟩;have n:=da ai
 have Za:=I4 p n
 have Zb:=Co fl k
 have Zc: (0::kT fl k).length≤11:=by simp only[eO];omega
 refine al ?_;refine bC (q:=k) sy rfl rfl rfl bc aa aa ?_;refine cx zF rfl rfl (rfl) (λw' b j v Zd=>by obtain⟨bY,Ze,_,Zf⟩:=(Rd.hp (E:=nI) (L:=n4) b Has.head rfl aZ).at_ ai;cases Ze;exact Zf j v Zd) ?_;refine ar ?_;intro ZA ZB ZC;refine aC ?_;refine qW (q:=1) underlying153 gB rfl rfl rfl aa aa ?_;refine a_ bN rfl rfl (λw' b=>b.eP Has.head rfl) ?_;refine rb (r:=((fl &&& p.2 :Nat):Int)) rfl rfl rfl (UL H g Za.1) ?_;refine ah ?_;refine aj (λo=>?_) (λo=>?_);have s:jv fl p.2=true:=by rw[←I3 p n fl g];exact bX o
 refine aq ?_;refine qW (q:=0) underlying153 gB rfl rfl rfl aa aa ?_;refine a_ bN rfl rfl (λw' b=>b.eP Has.head rfl) ?_;refine ar ?_;intro ZD ZE ZF;refine gx dL rfl rfl rfl bj (λ_=>by exact lf) rfl (io rfl) (by simp only[maxLen];omega) aa (λZg ZG=>?_);refine aK ?_;refine bi (k+1,Zg) bm bm (ec rfl rfl rfl rfl rfl) (λw' b=>?_);dsimp only;rw[I2 ai,aw s,←my,bA.hn bT,b6];exact b.rem bw.head;have s: ¬jv fl p.2=true:=by rw[←I3 p n fl g];simpa using o
 refine aC ?_;refine bi (k+1,u) bm bm (ec rfl rfl rfl rfl rfl) (λw' b=>?_);dsimp only;rw[I2 ai,ag s];exact b.rem bw.head;have Zh:k=10:=by omega
 subst Zh;have Zb:=Co fl 10
 have Zc: (0::kT fl 10).length≤11:=by simp only[eO];omega
 have ZH:=yz di fn 38
 have ZI:=yz an aM 48
 refine aQ ?_;refine wP rfl Fp rfl (λw' b=>I1 w' di fn 38 (yy F)) (λZJ J ZK K ZL M Zi ZM Zj N=>?_);have Zk:=N.len
 have O:Ext [] w J:=M.ext.dW Zi
 have y:=M.ek
 have ZN:=O.size
 refine oH (E:=bT) (src:=kS di fn 38) dL rfl rfl rfl (λ_=>by exact ew) (λw' b=>N.ext b.ext (λk l z=>by have:=Zj k z;omega)) (by simp only[maxLen];omega) aa (λZO ZP=>?_);refine aK ?_;refine wP rfl Fp rfl (λw' b=>I1 w' an aM 48 (yy G)) (λZQ P ZR n6 ZS Q Zl ZT Zm R=>?_);have Zn:=R.len
 have S:=Q.ek
 have Zo:Ext _ J P:=Q.ext.dW Zl
 have T:Ext [] w P:=O.trans Zo (λx d c=>y x d c)
 refine oH (E:=bT) (src:=kS an aM 48) dL rfl rfl rfl (λ_=>by exact ew) (λw' b=>R.ext b.ext (λk l z=>by have:=Zm k z;omega)) (by simp only[maxLen];omega) aa (λZp ZU=>?_);refine jd (v:=Zp) (Has.tail Has.head) (λZV ZW Zq _ _ _ _=>?_);subst Zq;have d: (0::kT fl 10).length+K+n6≤1000:=by omega
 refine ao (v:= .string (bs (hf (na ⟨di,fn,an,aM,(fl:Int)⟩)))) rfl O2 rfl (λw' b=>?_) ?_;have U:=b.has (Has.tail Has.head)
 rw[show bT.all (0::kT fl 10)++bT.all (kS di fn 38)++bT.all (kS an aM 48)=bT.all (na ⟨di,fn,an,aM,(fl:Int)⟩) from by simp only[na,bA.all_append];rfl] at U
 have Zr: (na ⟨di,fn,an,aM,(fl:Int)⟩).length=(0::kT fl 10).length+K+n6:=by
  rw[←Zk,←Zn,na,b6,b6];rfl
 obtain⟨dG,c9,Zs,Zt⟩:=Rd.gf (E:=bT) U Zr;cases Zs
 exact UE w' (V.ext (T.trans b.ext (λx d c=>y x (S x d aa) c))) _ _ _ _ _ Zt d (I5 F G g);refine ay ?_;intro X i;exact⟨rfl,T.trans i.ext (λx d c=>y x (S x d aa) c)⟩
theorem UO (w:World) (j:fF w) (name:List UInt8) (a:iV) (t b:Int):
 Calls prog 187 [.string (bs name),tw a,.int .i64 t,.int .i64 b].toArray w (λe w'=>e= .returned (.string (bs (rH name (W a) (e0 t) (e0 b))))∧Ext [] w w'):=by
 have m:=mf t
 have o:=mf b
 have p:=I6 (W a)
 refine aV func187 ntmps187 ?_;refine ah ?_;intro q r s;refine dB ?_;refine aj (λf=>?_) (λf=>?_);refine ah ?_;refine ao rfl Ov rfl (λw' g=>UN w' (j.ext g.ext) a) ?_;refine aQ ?_;refine aj (λc=>?_) (λc=>?_);refine aC ?_;refine eJ rfl rfl rfl b4 ?_;refine eJ rfl rfl rfl b4 ?_;refine eJ rfl rfl rfl b4 ?_;refine aC ?_;intro i d;refine⟨?_,d.ext⟩;rw[rH,aw f,ag (λh=>UI h c)];rfl
 refine ay ?_;refine eJ rfl rfl rfl b4 ?_;refine eJ rfl rfl rfl b4 ?_;refine eJ rfl rfl rfl b4 ?_;refine aC ?_;intro i d;refine⟨?_,d.ext⟩;rw[rH,aw f,aw (by
  cases k:fG (W a) with
  | true=>rfl
  | false=>exact absurd (by rw[n5,ag (by simp[k])]) c)]
 simp
 refine al ?_;refine aj (λc=>?_) (λc=>?_);have u:=rG (n:=e0 t+1) aa
 have v:=rG (n:=e0 b+1) aa
 refine ah ?_;refine ao rfl sF rfl (λw' _=>tK w' t) ?_;refine aq ?_;refine ao rfl sF rfl (λw' _=>tK w' b) ?_;refine aq ?_;intro x y A;refine ao rfl sD rfl (λw' g=>qq w' (j.ext g.ext) _ _ _ _ [((e0 t+1 :Nat):Int),((e0 b+1 :Nat):Int)] (Rd.hp (E:=bT) g Has.head rfl aZ) aZ (by intro z l;simp at l;omega)) ?_;rw[Cl];refine eJ rfl rfl rfl b4 ?_;refine eJ rfl rfl rfl b4 ?_;refine eJ rfl rfl rfl b4 ?_;refine aC ?_;intro i d;refine⟨?_,d.ext⟩;rw[rH,ag f,aw c];simp
 refine aQ ?_;intro i d;refine⟨?_,d.ext⟩;rw[rH,ag f,ag c]
end Go.Proofs.YtlgnfdodnhokjaaGreatDoor.Mq.cU
