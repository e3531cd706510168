/- part 25 of the proof -/
import Derived.Test.YtkeokgcdnfjaaaaGreatDoorQ10
import Derived.Shelf.Strconv.Itoa3
import Derived.Lib.ItoaLen
import Derived.Shelf.Strings.OnBuilder
namespace Go.Proofs.YtkeokgcdnfjaaaaGreatDoor.Mq.cS
open Go Go.RowKit Go.Proofs Tryz
def BT:Shelf.Ren:=⟨λ| 129=>290 | 171=>326 | 243=>387 | 246=>419 | 283=>438 | 284=>439 | 285=>440 | 286=>441 | 317=>454 | 318=>455 | 319=>456 | 320=>457 | 337=>467 | 338=>377 | n=>n,λ| 0=>0 | 2=>2 | 3=>3 | 4=>4 | 5=>5 | 9=>9 | 20=>20 | 37=>62 | 46=>258 | 51=>89 | 53=>34 | 171=>439 | 173=>441 | 212=>448 | 213=>449 | 232=>465 | 233=>428 | n=>n,λ| 17=>2 | 18=>7 | 19=>0 | n=>n⟩
theorem BU:LaysM.n171 prog BT where
 mixed:=by kernel_rfl
 f129:=func290.trans (aX some ab)
 f171:=func326.trans (aX some ab)
 f243:=func387.trans (aX some ab)
 f246:=func419.trans (aX some ab)
 f283:=func438.trans (aX some ab)
 f284:=func439.trans (aX some ab)
 f285:=func440.trans (aX some ab)
 f286:=func441.trans (aX some ab)
 f317:=func454.trans (aX some ab)
 f318:=func455.trans (aX some ab)
 f319:=func456.trans (aX some ab)
 f320:=func457.trans (aX some ab)
 f337:=func467.trans (aX some ab)
 f338:=func377.trans (aX some ab)
 t0:=underlying0
 a0:=isAgg0
 z0:=sizeOf0
 v0:=zeroValue0
 t2:=underlying2
 a2:=isAgg2
 z2:=sizeOf2
 v2:=zeroValue2
 t3:=underlying3
 a3:=isAgg3
 z3:=sizeOf3
 v3:=zeroValue3
 t4:=underlying4
 a4:=isAgg4
 z4:=sizeOf4
 v4:=zeroValue4
 t5:=underlying5
 a5:=isAgg5
 z5:=sizeOf5
 v5:=zeroValue5
 t9:=underlying9
 a9:=isAgg9
 z9:=sizeOf9
 v9:=zeroValue9
 t20:=underlying20
 a20:=isAgg20
 z20:=sizeOf20
 v20:=zeroValue20
 t37:=underlying62
 a37:=isAgg62
 z37:=sizeOf62
 v37:=zeroValue62
 t46:=underlying258
 a46:=isAgg258
 z46:=sizeOf258
 v46:=zeroValue258
 t51:=underlying89
 a51:=isAgg89
 z51:=sizeOf89
 v51:=zeroValue89
 t53:=underlying34
 a53:=isAgg34
 z53:=sizeOf34
 v53:=zeroValue34
 t171:=underlying439
 a171:=isAgg439
 z171:=sizeOf439
 v171:=zeroValue439
 t173:=underlying441
 a173:=isAgg441
 z173:=sizeOf441
 v173:=zeroValue441
 t212:=underlying448
 a212:=isAgg448
 z212:=sizeOf448
 v212:=zeroValue448
 t213:=underlying449
 a213:=isAgg449
 z213:=sizeOf449
 t232:=underlying465
 a232:=isAgg465
 z232:=sizeOf465
 v232:=zeroValue465
 t233:=underlying428
 a233:=isAgg428
 z233:=sizeOf428
 v233:=zeroValue428
 g17:=by kernel_rfl
 g18:=by kernel_rfl
 g19:=by kernel_rfl
 i0:=by kernel_rfl
 i2:=by kernel_rfl
 i3:=by kernel_rfl
 i4:=by kernel_rfl
 i5:=by kernel_rfl
 i9:=by kernel_rfl
 i20:=by kernel_rfl
 i37:=by kernel_rfl
 i46:=by kernel_rfl
 i51:=by kernel_rfl
 i53:=by kernel_rfl
 i171:=by kernel_rfl
 i173:=by kernel_rfl
 i212:=by kernel_rfl
 i232:=by kernel_rfl
 i233:=by kernel_rfl
 m17:=by kernel_rfl
 m18:=by kernel_rfl
 m19:=by kernel_rfl
def fv (w:World):Prop:=Lib.TabIs prog w "internal/strconv.uint64pow10" .u64 Lib.pow10Tab
theorem vk {P:Program} {w w':World} {nm:String} {k:IntKind} {b:List Int} (h:Lib.TabIs P w nm k b) (c:Ext [] w w'):Lib.TabIs P w' nm k b:=by
 unfold Lib.TabIs World.var? at *
 obtain⟨g,d,a⟩:=lD.1 h;refine lD.2 ⟨g,d,?_⟩;have e:g<w.heap.size:=by
  rcases e1 g w.heap.size with h | h
  exact h;rw[rH h] at a;cases a
 rw[c.block g e av];exact a
theorem fv.ext {w w':World} (h:fv w) (a:Ext [] w w'):fv w':=vk h a
theorem BV (w:World) (k:Nat) (os:Array Obj):Ext [] w (Sort.grow (w.drewN k) os):=by
 refine⟨rfl,rfl,rfl,?_,λb a _=>?_⟩;show w.heap.size≤(w.heap++os).size
 simp
 show (w.heap++os)[b]? = w.heap[b]?
 rw[tS a]
theorem vl (w:World) (a:fv w) (n:Int) (h: -9223372036854775808≤n∧n≤9223372036854775807):
 Calls prog 326 [.int .i64 n].toArray w (λe w'=>e= .returned (.string (bs (Lib.itoa n)))∧Ext [] w w'):=by
 refine Calls.mono (Any.strconv_Itoa BU n h.1 h.2 w a) ?_;rintro e w' ⟨rfl,k,os,rfl⟩;exact⟨rfl,BV w k os⟩
theorem vm:ad prog 326:=ad.of func326 ab ab
theorem x8 {u:Nat} (h:u<10):Lib.decDigits u=[UInt8.ofNat (48+u)]:=by rw[Lib.decDigits,dif_pos h]
theorem Tx {u:Nat} (h: ¬u<10):Lib.decDigits u=Lib.decDigits (u/10)++[UInt8.ofNat (48+u%10)]:=by rw[Lib.decDigits,dif_neg h]
theorem H5 {u:Nat} (h:u≤9223372036854775807): (Lib.decDigits u).length≤21:=by
 have:=Lib.itoa_length_le (u:Int) aa aa
 rwa [Lib.itoa_nonneg] at this
def H6:Shelf.Ren:=⟨λ| 156=>327 | 165=>388 | 166=>79 | 169=>80 | 240=>125 | 241=>420 | 276=>187 | 277=>442 | n=>n,λ| 0=>0 | 3=>3 | 4=>4 | 5=>5 | 9=>9 | 20=>20 | 31=>321 | 37=>62 | 70=>92 | 72=>94 | 75=>188 | 76=>189 | 80=>192 | 127=>233 | 164=>285 | n=>n,λn=>n⟩
theorem H7:Lays.n156 prog H6 where
 mixed:=by kernel_rfl
 f156:=func327.trans (aX some ab)
 f165:=func388.trans (aX some ab)
 f166:=func79.trans (aX some ab)
 f169:=func80.trans (aX some ab)
 f240:=func125.trans (aX some ab)
 f241:=func420.trans (aX some ab)
 f276:=func187.trans (aX some ab)
 f277:=func442.trans (aX some ab)
 t0:=underlying0
 a0:=isAgg0
 z0:=sizeOf0
 v0:=zeroValue0
 t3:=underlying3
 a3:=isAgg3
 z3:=sizeOf3
 v3:=zeroValue3
 t4:=underlying4
 a4:=isAgg4
 z4:=sizeOf4
 v4:=zeroValue4
 t9:=underlying9
 a9:=isAgg9
 z9:=sizeOf9
 v9:=zeroValue9
 t20:=underlying20
 a20:=isAgg20
 z20:=sizeOf20
 v20:=zeroValue20
 t31:=underlying321
 a31:=isAgg321
 z31:=sizeOf321
 v31:=zeroValue321
 t37:=underlying62
 a37:=isAgg62
 z37:=sizeOf62
 v37:=zeroValue62
 t70:=underlying92
 a70:=isAgg92
 z70:=sizeOf92
 v70:=zeroValue92
 t72:=underlying94
 a72:=isAgg94
 z72:=sizeOf94
 v72:=zeroValue94
 t75:=underlying188
 a75:=isAgg188
 z75:=sizeOf188
 v75:=zeroValue188
 t76:=underlying189
 a76:=isAgg189
 z76:=sizeOf189
 v76:=zeroValue189
 t127:=underlying233
 a127:=isAgg233
 z127:=sizeOf233
 v127:=zeroValue233
 t164:=underlying285
 a164:=isAgg285
 z164:=sizeOf285
 v164:=zeroValue285
theorem H8:Builder.Extra prog H6 where
 sizeBuilder:=by kernel_rfl
 liesBuilder:=by kernel_rfl
 t5:=underlying5
 a5:=isAgg5
 z5:=sizeOf5
 v5:=zeroValue5
 infoByte:=by kernel_rfl
 cellsByte:=by kernel_rfl
 sizeByte:=by kernel_rfl
 neB5:=aY ab
def jD:bA (List UInt8):=⟨λs=>[.string (bs s)],1,λ_=>rfl,λ_=>aI.cons rfl aI.nil⟩
theorem H9:ad prog 327:=ad.of func327 ab ab
theorem H_ (w:World) (e m:Nat) (v:Value) (L:List (List UInt8)) (b:List UInt8) (h:w.ownsRow 0 e 1 v m (jD.all L)) (i:L.length=m) (y:m≤1000000) (n: (Lib.join L b).length≤140737488355328):
 Calls prog 327 [v,.string (bs b)].toArray w (λe w'=>e= .returned (.string (bs (Lib.join L b)))∧Ext [] w w'):=by
 rcases h.2 with ⟨rfl,o⟩ | ⟨g,cap,am,rfl,_,p,z,A,B,C⟩
 have q:L=[]:=iR (i.trans o)
 subst q;refine (Any.strings_Join_none H7 H8 none 0 (bs b) w).mono λe w' ⟨d,c⟩=>⟨?_,c▸Ext.refl _ _⟩
 rw[d];rfl
 have k: (L.map bs).map (λx:ByteArray=>x.data.toList)=L:=by
  rw[n4];conv=>rhs;rw[←List.map_id L]
  exact tY λs _=>rfl
 have l:=Any.strings_Join H7 H8 g 0 cap (L.map bs) (bs b) w (λj x a=>by
  rw[eJ] at a
  cases f:L[j]? with
  | none=>rw[f] at a;simp at a
  | some s=>
   rw[f] at a
   simp only[oc,dz] at a
   subst a;have r:=jD.lE (j:=0) (u:= .string (bs s)) f rfl
   have c: (jD.all L)[j]? = some (.string (bs s)):=by simpa [jD] using r
   have t:=h.cells (g:=g) rfl j _ c
   rwa [Addr.add_lit] at t)
  (lz.1 p).1 (by simp;omega) (by simp;omega) (by rw[k];exact n)
 rw[k,cN,i] at l
 exact l.mono λe w' ⟨d,c⟩=>⟨d,Ext.r0 c⟩
def gW (l:List Int):List UInt8:=Lib.join (l.map Lib.itoa) [59]
theorem join_le (a:List UInt8) (k:Nat): ∀(L:List (List UInt8)),(∀s∈L,s.length≤k)→(Lib.join L a).length≤L.length*(k+a.length)
 | [],_=>by simp[Lib.join_nil]
 | x::r,h=>by
  rw[Lib.join_cons,b0];have f:=h x av
  have d: ∀(r:List (List UInt8)),(∀s∈r,s.length≤k)→(Lib.joinTail a r).length≤r.length*(k+a.length):=by
   intro r;induction r with
   | nil=>intro _;simp[Lib.joinTail]
   | cons y r e=>
    intro h;have c:=e (λs b=>h s (by simp[b]))
    have g:=h y av
    unfold Lib.joinTail at c ⊢
    rw[lB,List.flatten_cons,b0,b0,eK,Nat.add_one_mul];omega
  have c:=d r (λs b=>h s (by simp[b]))
  rw[eK,Nat.add_one_mul];omega
theorem BY (l:List Int) (h: ∀x∈l,-9223372036854775808≤x∧x≤9223372036854775807): (gW l).length≤l.length*22:=by
 have:=join_le [59] 21 (l.map Lib.itoa) (λs b=>by
  obtain⟨x,a,rfl⟩:=dF.1 b;exact Lib.itoa_length_le x (h x a).1 (h x a).2)
 simpa [gW] using this
theorem qd (w:World) (h:fv w) (F:Nat→Prop) (A:Option Addr) (m c:Nat) (l:List Int) (f:Rd bS w F A m c l) (s:m≤1000) (g: ∀x∈l,-9223372036854775808≤x∧x≤9223372036854775807):
 Calls prog 235 [.slice A m c].toArray w (λe w'=>e= .returned (.string (bs (gW l)))∧Ext [] w w'):=by
 have t:=f.len
 have u:=BY l g
 refine aW func235 ntmps235 ?_;refine bw ?_;refine jM 9 1 ?_;refine aC ?_;refine b3 (ι:=Nat × Value) (λk=>[(3,k.2),(6,.slice A m c),(7,.int .i64 (m:Int)),(8,.int .i64 (k.1 :Int))]) (λk=>af w [] [own 9 1 k.2 k.1 (jD.all ((l.take k.1).map Lib.itoa))]) (λk=>k.1≤m) (λk=>m - k.1) ?_ ?_;exact λw b=>⟨(0,.slice none 0 0),bN _,(cu rfl rfl rfl rfl),b⟩
 rintro⟨k,v⟩ i;dsimp only at i ⊢
 refine al ?_;refine aj (λj=>?_) (λj=>?_);obtain⟨x,d⟩ : ∃x,l[k]? = some x:=⟨l[k]'aa,bE _⟩;have n:=g x (c8 d)
 obtain⟨bX,o,_,p⟩:=f.at_ d;refine al ?_;refine bD (q:=k) dJ rfl rfl rfl o aa aa ?_;refine ba bM rfl rfl (λw' a=>a.ct (p 0 _ rfl) av) ?_;refine al ?_;refine ao rfl vm rfl (λw' a=>vl w' (h.ext a.ext) x n) ?_;refine aq ?_;intro y z B;refine gm DU rfl rfl rfl bi (λ_=>by exact cz) rfl (ic rfl) (by simp only[maxLen];omega) aa (λr C=>?_);refine aK ?_;refine bg (k+1,r) bm bm (cu rfl rfl rfl rfl) (λw' a=>?_);dsimp only;rw[fU,d,pm,gb,lB,List.map_nil,bA.hc];exact a;obtain rfl:k=m:=by omega
 rw[eu aa];refine aK ?_;refine ao rfl H9 rfl (λw' a=>H_ w' _ _ _ (l.map Lib.itoa) [59] (a.has Has.head) (by simp;omega) aa (by show (gW l).length≤_;omega)) ?_;refine ay ?_;intro D b;exact⟨rfl,b.ext⟩
def eV (n:Int):Nat:=(max 0 (min n 1000)).toNat
theorem Ty (n:Int):max 0 (min n 1000)=(eV n:Int):=by unfold eV;omega
theorem lZ (n:Int):eV n≤1000:=by unfold eV;omega
theorem tm (w:World) (n:Int):Calls prog 263 [.int .i64 n].toArray w (λe w'=>e= .returned (.int .i64 (eV n:Int))∧Ext [] w w'):=by
 refine aW func263 ntmps263 ?_;refine cE ?_;intro b a;exact⟨by rw[←Ty],a.ext⟩
theorem rn {n:Nat} (h:n≤1001): (Lib.decDigits n).length≤21:=H5 aa
def x9 (p:Bool) (y x:Nat):List UInt8:=[27,91]++(if p then [63] else [])++Lib.decDigits (y+1)++[59]++Lib.decDigits (x+1)++[82]
def x_ (r c:Nat):List UInt8:=[27,91,56,59]++Lib.decDigits r++[59]++Lib.decDigits c++[116]
theorem Tz (a:Nat):gW [(a:Int)]=Lib.decDigits a:=by
 simp only[gW,lB,List.map_nil,Lib.join_one,Lib.itoa_nonneg]
theorem BZ (a b:Nat):gW [(a:Int),(b:Int)]=Lib.decDigits a++[59]++Lib.decDigits b:=by
 simp[gW,Lib.join,List.intercalate,Lib.itoa_nonneg]
theorem Ia (a b c:Nat):gW [(a:Int),(b:Int),(c:Int)]=Lib.decDigits a++[59]++Lib.decDigits b++[59]++Lib.decDigits c:=by
 simp[gW,Lib.join,List.intercalate,Lib.itoa_nonneg]
theorem Ib (w:World) (c:fv w) (y x:Int) (p:Bool):Calls prog 232 [.int .i64 y,.int .i64 x,.bool p].toArray w (λe w'=>e= .returned (.string (bs (x9 p (eV y) (eV x))))∧Ext [] w w'):=by
 have i:=lZ y
 have j:=lZ x
 refine aW func232 ntmps232 ?_;refine bo ?_;refine oi ([(0,.int .i64 y),(1,.int .i64 x),(7,.string (bs (if p then [63] else [])))]) (af w [] []) ?_ ?_;refine ay ?_;refine b2 rfl (λa=>?_) (λa=>?_);refine ah ?_;rw[ax a];exact gn (dZ rfl rfl rfl) (λ_ h=>h);refine aq ?_;rw[ag (by simp[a])];exact gn (dZ rfl rfl rfl) (λ_ h=>h);have k: (if p then ([63]:List UInt8) else []).length≤1:=by split <;> simp
 generalize d: (if p then ([63]:List UInt8) else [])=l at *
 refine ar ?_;have m:=rn (n:=eV y+1) aa
 have o:=rn (n:=eV x+1) aa
 refine ar ?_;refine eE rfl rfl rfl b4 ?_;refine aq ?_;refine ao rfl sh rfl (λw' _=>tm w' y) ?_;refine ar ?_;refine ao rfl sh rfl (λw' _=>tm w' x) ?_;refine ar ?_;intro q r s;refine ao rfl sf rfl (λw' b=>qd w' (c.ext b.ext) _ _ _ _ [((eV y+1 :Nat):Int),((eV x+1 :Nat):Int)] (Rd.hf (E:=bS) b Has.head rfl a1) a1 (by intro z f;simp at f;omega)) ?_;rw[BZ];refine eE rfl rfl rfl b4 ?_;refine eE rfl rfl rfl b4 ?_;refine ay ?_;intro t g;refine⟨?_,g.ext⟩;rw[x9,d];simp
theorem pT (w:World) (b:fv w) (y x:Int):Calls prog 254 [.int .i64 y,.int .i64 x].toArray w (λe w'=>e= .returned (.string (bs (x_ (eV y) (eV x))))∧Ext [] w w'):=by
 have f:=lZ y
 have g:=lZ x
 refine aW func254 ntmps254 ?_;refine al ?_;have h:=rn (n:=8) aa
 have i:=rn (n:=eV y) aa
 have j:=rn (n:=eV x) aa
 refine ar ?_;refine ao rfl sh rfl (λw' _=>tm w' y) ?_;refine aq ?_;refine ao rfl sh rfl (λw' _=>tm w' x) ?_;refine aq ?_;intro k l m;refine ao rfl sf rfl (λw' a=>qd w' (b.ext a.ext) _ _ _ _ [((8 :Nat):Int),(eV y:Int),(eV x:Int)] (Rd.hf (E:=bS) a Has.head rfl a1) a1 (by intro z c;simp at c;omega)) ?_;rw[Ia];refine eE rfl rfl rfl b4 ?_;refine eE rfl rfl rfl b4 ?_;refine ay ?_;intro o d;refine⟨?_,d.ext⟩;rw[x_,show Lib.decDigits 8=[56] from x8 a1];simp
theorem B0 {n:Nat} (h:n<10):Lib.decDigits n=[UInt8.ofNat (48+n)]:=x8 h
theorem B1 {n:Nat} (a: ¬n<10) (b:n<100):Lib.decDigits n=[UInt8.ofNat (48+n/10),UInt8.ofNat (48+n%10)]:=by
 rw[Tx a,x8 aa];rfl
theorem Ic (w:World) (b:fv w):Calls prog 220 [].toArray w (λe w'=>e= .returned (.string (bs [27,91,63,54,50,59,50,50,99]))∧Ext [] w w'):=by
 refine aW func220 ntmps220 ?_;refine aK ?_;intro d f g;refine ao (v:= .string (bs [54,50,59,50,50])) rfl sf rfl (λw' a=>by have:=qd w' (b.ext a.ext) _ _ _ _ [((62 :Nat):Int),((22 :Nat):Int)] (Rd.hf (E:=bS) a Has.head rfl a1) a1 a1;rw[show gW [((62 :Nat):Int),((22 :Nat):Int)]=[54,50,59,50,50] from (by rw[BZ,B1 (n:=62) a1 a1,B1 (n:=22) a1 a1];decide)] at this;exact this) ?_;refine eE rfl rfl rfl b4 ?_;refine eE rfl rfl rfl b4 ?_;refine ay ?_;intro h c;exact⟨rfl,c.ext⟩
theorem TA (w:World) (b:fv w):Calls prog 171 [].toArray w (λe w'=>e= .returned (.string (bs [27,91,62,49,59,49,48,59,48,99]))∧Ext [] w w'):=by
 refine aW func171 ntmps171 ?_;refine aK ?_;intro d f g;refine ao (v:= .string (bs [49,59,49,48,59,48])) rfl sf rfl (λw' a=>by have:=qd w' (b.ext a.ext) _ _ _ _ [((1 :Nat):Int),((10 :Nat):Int),((0 :Nat):Int)] (Rd.hf (E:=bS) a Has.head rfl a1) a1 a1;rw[show gW [((1 :Nat):Int),((10 :Nat):Int),((0 :Nat):Int)]=[49,59,49,48,59,48] from (by rw[Ia,B0 (n:=1) a1,B1 (n:=10) a1 a1,B0 (n:=0) a1];decide)] at this;exact this) ?_;refine eE rfl rfl rfl b4 ?_;refine eE rfl rfl rfl b4 ?_;refine ay ?_;intro h c;exact⟨rfl,c.ext⟩
theorem TB (w:World) (b:fv w):Calls prog 252 [].toArray w (λe w'=>e= .returned (.string (bs [27,91,48,110]))∧Ext [] w w'):=by
 refine aW func252 ntmps252 ?_;refine aK ?_;intro d f g;refine ao (v:= .string (bs [48])) rfl sf rfl (λw' a=>by have:=qd w' (b.ext a.ext) _ _ _ _ [((0 :Nat):Int)] (Rd.hf (E:=bS) a Has.head rfl a1) a1 a1;rw[show gW [((0 :Nat):Int)]=[48] from (by rw[Tz,B0 (n:=0) a1];decide)] at this;exact this) ?_;refine eE rfl rfl rfl b4 ?_;refine eE rfl rfl rfl b4 ?_;refine ay ?_;intro h c;exact⟨rfl,c.ext⟩
structure iK where
 dg:Int
 fn:Int
 an:Int
 aM:Int
 fl:Int
deriving DecidableEq
abbrev s8 (a:iK):Value:= .agg [.int .i64 a.dg,.int .i64 a.fn,.int .i64 a.an,.int .i64 a.aM,.int .i64 a.fl].toArray
abbrev p_ (k n:Int):Value:= .agg [.int .i64 k,.int .i64 n].toArray
def j7 (k n:Int):Bool:=decide ((k=0∧n=0)∨(k=1∧0≤n∧n<256)∨(k=2∧0≤n∧n<16777216))
def jm (n f:Nat):Bool:=decide (n/f%2=1)
def fw (a:iK):Bool:=j7 a.dg a.fn && (j7 a.an a.aM && decide (0≤a.fl∧a.fl<1024∧ ¬(jm a.fl.toNat 8=true∧jm a.fl.toNat 256=true)))
theorem Id (w:World) (k n:Int):Calls prog 408 [p_ k n].toArray w (λe w'=>e= .returned (.bool (j7 k n))∧Ext [] w w'):=by
 refine aW func408 ntmps408 ?_;refine ah ?_;intro j l m;refine ef ?_;refine aj (λf=>?_) (λf=>?_);refine bw ?_;intro b a;refine⟨?_,a.ext⟩;congr 2
 simp only[j7,gG];omega
 refine al ?_;refine aj (λg=>?_) (λg=>?_);refine al ?_;refine aV 15 rfl (λc=>?_) (λc=>?_);have h:=aY c
 refine b5 ?_;intro b a;refine⟨?_,a.ext⟩;congr 2
 simp only[j7,gG];omega
 have h:=a8 c
 refine bo ?_;intro b a;refine⟨?_,a.ext⟩;congr 2
 simp only[j7];rw[eq_comm,e2];omega
 refine al ?_;refine aj (λc=>?_) (λc=>?_);refine al ?_;refine aV 25 rfl (λd=>?_) (λd=>?_);have i:=aY d
 refine b5 ?_;intro b a;refine⟨?_,a.ext⟩;congr 2
 simp only[j7,gG];omega
 have i:=a8 d
 refine bo ?_;intro b a;refine⟨?_,a.ext⟩;congr 2
 simp only[j7];rw[eq_comm,e2];omega
 refine aR ?_;intro b a;refine⟨?_,a.ext⟩;congr 2
 simp only[j7];rw[eq_comm,e2];omega
theorem s9 {z:Int} (a:0≤z) (b:z<9223372036854775808):IntKind.i64.wrap z=z:=by simp[IntKind.wrap,IntKind.bits,IntKind.signed];omega
theorem TC {m:Nat} (h:m<18446744073709551616):IntKind.i64.wrap (m:Int)=0↔m=0:=by
 simp[IntKind.wrap,IntKind.bits,IntKind.signed];omega
theorem TD (x:BitVec 64): (x &&& ~~~ (1023#64)).toNat=0↔x.toNat<1024:=by
 constructor
 intro h;have a:x &&& ~~~ (1023#64)=0#64:=BitVec.eq_of_toNat_eq (by rw[h];rfl)
 refine Nat.lt_pow_two_of_testBit (n:=10) x.toNat λi hi=>?_
 by_cases c:i<64
 have b: (x &&& ~~~ (1023#64)).getLsbD i=(0#64).getLsbD i:=by rw[a]
 have d: (1023#64).getLsbD i=false:=by
  rw[BitVec.getLsbD_ofNat,ue (pk (by decide:1023<2 ^ 10) (qD a1 hi))];simp
 rw[BitVec.getLsbD_and,BitVec.getLsbD_not,d,b1 c,BitVec.getLsbD_zero] at b
 exact (qt _).symm.trans b;exact ue (pk x.isLt (qD a1 aa));intro h;have a:x &&& ~~~ (1023#64)=0#64:=by
  refine BitVec.eq_of_getLsbD_eq λi hi=>?_
  rw[BitVec.getLsbD_and,BitVec.getLsbD_not];by_cases e:i<10
  have: (1023#64).getLsbD i=true:=by
   rw[BitVec.getLsbD_ofNat];have: ∀i,i<10→(decide (i<64) && Nat.testBit 1023 i)=true:=by decide
   exact this i e
  simp[this]
  have:x.getLsbD i=false:=ue (pk (show x.toNat<2 ^ 10 from h) (qD a1 aa))
  simp[this]
 rw[a];rfl
theorem TE {fl:Int} (h: -9223372036854775808≤fl∧fl≤9223372036854775807):
 IntKind.i64.wrap ((BitVec.ofInt IntKind.i64.bits fl &&& ~~~ BitVec.ofInt IntKind.i64.bits 1023).toNat:Int)=0↔0≤fl∧fl<1024:=by
 rw[TC (BitVec.isLt _)];refine Iff.trans (TD (BitVec.ofInt 64 fl)) ?_;rw[BitVec.toNat_ofInt];omega
theorem TF: ∀m,m<1024→decide (((m &&& 264 :Nat):Int)≠264)= !(jm m 8 && jm m 256):=by decide+kernel
theorem TG {fl:Int} (h:0≤fl∧fl<1024):IntKind.i64.wrap ((BitVec.ofInt IntKind.i64.bits fl &&& BitVec.ofInt IntKind.i64.bits 264).toNat:Int)=((fl.toNat &&& 264 :Nat):Int):=
 and_eq (m:=fl.toNat) (n:=264) aa rfl (show fl.toNat<18446744073709551616 by omega) a1 (s9 aa (by
  have:=Nat.and_le_right (n:=fl.toNat) (m:=264)
  omega))
theorem TH (w:World) (h:fv w) (F:Nat→Prop) (A:Option Addr) (m c:Nat) (l:List Int) (f:Rd bS w F A m c l) (s:m≤1000) (g: ∀x∈l,-9223372036854775808≤x∧x≤9223372036854775807):
 Calls prog 345 [.slice A m c].toArray w (λe w'=>e= .returned (.string (bs (gW l)))∧Ext [] w w'):=by
 have t:=f.len
 have u:=BY l g
 refine aW func345 ntmps345 ?_;refine bw ?_;refine jM 9 1 ?_;refine aC ?_;refine b3 (ι:=Nat × Value) (λk=>[(3,k.2),(6,.slice A m c),(7,.int .i64 (m:Int)),(8,.int .i64 (k.1 :Int))]) (λk=>af w [] [own 9 1 k.2 k.1 (jD.all ((l.take k.1).map Lib.itoa))]) (λk=>k.1≤m) (λk=>m - k.1) ?_ ?_;exact λw b=>⟨(0,.slice none 0 0),bN _,(cu rfl rfl rfl rfl),b⟩
 rintro⟨k,v⟩ i;dsimp only at i ⊢
 refine al ?_;refine aj (λj=>?_) (λj=>?_);obtain⟨x,d⟩ : ∃x,l[k]? = some x:=⟨l[k]'aa,bE _⟩;have n:=g x (c8 d)
 obtain⟨bX,o,_,p⟩:=f.at_ d;refine al ?_;refine bD (q:=k) dJ rfl rfl rfl o aa aa ?_;refine ba bM rfl rfl (λw' a=>a.ct (p 0 _ rfl) av) ?_;refine al ?_;refine ao rfl vm rfl (λw' a=>vl w' (h.ext a.ext) x n) ?_;refine aq ?_;intro y z B;refine gm DU rfl rfl rfl bi (λ_=>by exact cz) rfl (ic rfl) (by simp only[maxLen];omega) aa (λr C=>?_);refine aK ?_;refine bg (k+1,r) bm bm (cu rfl rfl rfl rfl) (λw' a=>?_);dsimp only;rw[fU,d,pm,gb,lB,List.map_nil,bA.hc];exact a;obtain rfl:k=m:=by omega
 rw[eu aa];refine aK ?_;refine ao rfl H9 rfl (λw' a=>H_ w' _ _ _ (l.map Lib.itoa) [59] (a.has Has.head) (by simp;omega) aa (by show (gW l).length≤_;omega)) ?_;refine ay ?_;intro D b;exact⟨rfl,b.ext⟩
def kH (k n p:Int):List Int:=if k=1 then [p,5,n] else if k=2 then [p,2,n/65536,n/256%256,n%256] else []
theorem Ie {z:Int} (h:0≤z∧z<16777216):IntKind.i64.wrap ((BitVec.ofInt IntKind.i64.bits z &&& BitVec.ofInt IntKind.i64.bits 255).toNat:Int)=z%256:=
 and_eq (m:=z.toNat) (n:=255) aa rfl (show z.toNat<18446744073709551616 by omega) a1 (by
  have e:z.toNat &&& 255=z.toNat%256:=Nat.and_two_pow_sub_one_eq_mod z.toNat 8
  rw[e,s9 aa aa];omega)
theorem If (w:World) (k n p:Int) (h:0≤n∧n<16777216):Calls prog 344 [p_ k n,.int .i64 p].toArray w (ia bS w (kH k n p)):=by
 refine aW func344 ntmps344 ?_;refine ah ?_;intro g i j;refine ef ?_;refine aj (λb=>?_) (λb=>?_);refine al ?_;intro l m o;refine aC ?_;intro f a;rw[kH,ax b];have c:=Rd.hf (E:=bS) (L:=[p,5,n]) a Has.head rfl (by show 3≤maxLen;decide)
 exact⟨_,_,_,rfl,a.ext,c.dC (λk d=>by rw[d];assumption)⟩;refine al ?_;refine aj (λe=>?_) (λe=>?_);refine ay ?_;refine pM (r:=n/65536) rfl rfl rfl a1 a7 ?_;refine ar ?_;refine pM (r:=n/256) rfl rfl rfl a1 a7 ?_;refine qV (r:=n/256%256) rfl rfl rfl (Ie aa) ?_;refine ar ?_;refine qV (r:=n%256) rfl rfl rfl (Ie h) ?_;refine aq ?_;intro q s t;refine aC ?_;intro f a;rw[kH,ag b,ax e];have c:=Rd.hf (E:=bS) (L:=[p,2,n/65536,n/256%256,n%256]) a Has.head rfl (by show 5≤maxLen;decide)
 exact⟨_,_,_,rfl,a.ext,c.dC (λk d=>by rw[d];assumption)⟩;refine aR ?_;intro f a;rw[kH,ag b,ag e];exact⟨none,0,0,rfl,a.ext,Rd.nil bS _ _ 0 a1 none⟩
def nr:bA (Nat × Nat):=⟨λp=>[.int .i64 (p.1 :Int),.int .i64 (p.2 :Int)],2,λ_=>rfl,λ_=>by repeat (first | exact aI.nil | refine aI.cons rfl ?_)⟩
def nN:List (Nat × Nat):=[(1,1),(2,2),(3,4),(4,8),(5,16),(7,32),(8,64),(9,128),(21,256),(53,512)]
def kI (fl k:Nat):List Int:=((nN.take k).filter (λp=>jm fl p.2)).map (λp=>(p.1 :Int))
theorem Ig {fl k:Nat} {p:Nat × Nat} (h:nN[k]? = some p):kI fl (k+1)=if jm fl p.2=true then kI fl k++[(p.1 :Int)] else kI fl k:=by
 unfold kI;rw[kr h,List.filter_append,gb];by_cases a:jm fl p.2=true <;> simp[a]
theorem B2 (fl k:Nat): (kI fl k).length≤10:=by
 unfold kI;rw[cN];have a:=List.length_filter_le (λp=>jm fl p.2) (nN.take k)
 have b: (nN.take k).length≤10:=by rw[dn];exact Nat.min_le_right _ _
 omega
theorem Ih: ∀p∈nN,∀n,n<1024→decide (((n &&& p.2 :Nat):Int)≠0)=jm n p.2:=by decide+kernel
theorem Ii: ∀p∈nN,p.2<1024∧p.1<1024:=by decide
theorem TI {n f:Nat} (a:n<1024) (b:f<1024):IntKind.i64.wrap ((BitVec.ofInt IntKind.i64.bits (n:Int) &&& BitVec.ofInt IntKind.i64.bits (f:Int)).toNat:Int)=((n &&& f:Nat):Int):=
 and_eq (m:=n) (n:=f) rfl rfl (show n<18446744073709551616 by omega) (show f<18446744073709551616 by omega) (s9 (rI _) (by have:=Nat.and_le_left (n:=n) (m:=f);omega))
def mR (a:iK):List Int:=0::kI a.fl.toNat 10++kH a.dg a.fn 38++kH a.an a.aM 48
def nO (a:iK):List UInt8:=if fw a=true then gW (mR a) else []
theorem ya {k n:Int} (h:j7 k n=true):0≤n∧n<16777216:=by
 unfold j7 at h
 have:=aY h
 omega
theorem yb (k n p:Int): (kH k n p).length≤5:=by unfold kH;split <;> (try split) <;> simp
theorem Ij {dg fn an aM:Int} {fl:Nat} (b:j7 dg fn=true) (c:j7 an aM=true) (e:fl<1024): ∀x∈mR ⟨dg,fn,an,aM,(fl:Int)⟩,-9223372036854775808≤x∧x≤9223372036854775807:=by
 have ai: ∀k n p:Int,0≤n∧n<16777216→0≤p∧p≤100→ ∀x∈kH k n p,-9223372036854775808≤x∧x≤9223372036854775807:=by
  intro k n p f ai x a;unfold kH at a
  split at a
  simp only[eD,List.not_mem_nil,or_false] at a
  omega
  split at a
  simp only[eD,List.not_mem_nil,or_false] at a
  omega
  cases a
 intro x a;rw[mR] at a
 rcases cX.1 a with a | a
 rcases cX.1 a with a | a
 rcases eD.1 a with rfl | a
 omega
 obtain⟨p,d,rfl⟩:=dF.1 a;have:=(Ii p (iu (List.mem_filter.1 d).1)).2
 omega
 exact ai _ _ _ (ya b) aa x a;exact ai _ _ _ (ya c) aa x a
def B3 (l:List Int):List UInt8:=l.flatMap (λx=>59::Lib.itoa x)
theorem TJ (x:Int) (l:List Int):gW (x::l)=Lib.itoa x++B3 l:=by
 induction l generalizing x with
 | nil=>simp[gW,B3,Lib.join,List.intercalate]
 | cons y l a=>
  have b:gW (x::y::l)=Lib.itoa x++59::gW (y::l):=by
   simp[gW,Lib.join,List.intercalate]
  rw[b,a y];simp[B3]
theorem TK:Lib.itoa 0=[48]:=by
 rw[show (0 :Int)=((0 :Nat):Int) from rfl,Lib.itoa_nonneg,x8 a1];rfl
def ro (name:List UInt8) (a:iK) (t b:Nat):List UInt8:=
 if name=[109] then [27,80,49,36,114]++(if fw a=true then nO a else [48])++[109,27,92]
 else if name=[114] then [27,80,49,36,114]++Lib.decDigits (t+1)++[59]++Lib.decDigits (b+1)++[114,27,92]
 else [27,80,48,36,114,27,92]
theorem Ik (a:iK): (nO a).length≤500:=by
 by_cases b:fw a=true
 have c:=b
 obtain⟨dg,fn,an,aM,d⟩:=a;simp only[fw,dY,e3] at c
 obtain⟨e,f,g,h,_⟩:=c;obtain⟨fl,rfl⟩ : ∃m:Nat,d=m:=⟨d.toNat,aa⟩;have i:=BY _ (Ij e f (fl:=fl) aa)
 have j:=B2 fl 10
 have k:=yb dg fn 38
 have l:=yb an aM 48
 have n: (mR ⟨dg,fn,an,aM,(fl:Int)⟩).length≤21:=by
  simp only[mR,gZ,b0,eK];omega
 rw[nO,ax b];omega
 rw[nO,ag b];simp
theorem TL {a:iK} (h:fw a=true):nO a≠[]:=by
 rw[nO,ax h,mR,mi,mi,TJ,TK];simp
def W (a:iK):iK:={ a with fl:=IntKind.i64.wrap a.fl }
theorem yc (a:iK):fw (W a)=(j7 a.dg a.fn && (j7 a.an a.aM && decide (0≤IntKind.i64.wrap a.fl∧IntKind.i64.wrap a.fl<1024∧ ¬(jm (IntKind.i64.wrap a.fl).toNat 8=true∧jm (IntKind.i64.wrap a.fl).toNat 256=true)))):=rfl
theorem TM (z:Int): -9223372036854775808≤IntKind.i64.wrap z∧IntKind.i64.wrap z≤9223372036854775807:=by
 simp[IntKind.wrap,IntKind.bits,IntKind.signed];omega
theorem B4 (z:Int):BitVec.ofInt IntKind.i64.bits (IntKind.i64.wrap z)=BitVec.ofInt IntKind.i64.bits z:=by
 apply BitVec.eq_of_toNat_eq
 rw[BitVec.toNat_ofInt,BitVec.toNat_ofInt];congr 1
 simp[IntKind.wrap,IntKind.bits,IntKind.signed]
 omega
theorem Il {fl:Int}:IntKind.i64.wrap ((BitVec.ofInt IntKind.i64.bits fl &&& ~~~ BitVec.ofInt IntKind.i64.bits 1023).toNat:Int)=0↔0≤IntKind.i64.wrap fl∧IntKind.i64.wrap fl<1024:=by
 rw[←B4 fl];exact TE (TM fl)
theorem TN {fl:Int} (h:0≤IntKind.i64.wrap fl∧IntKind.i64.wrap fl<1024):IntKind.i64.wrap ((BitVec.ofInt IntKind.i64.bits fl &&& BitVec.ofInt IntKind.i64.bits 264).toNat:Int)=(((IntKind.i64.wrap fl).toNat &&& 264 :Nat):Int):=by
 rw[←B4 fl];exact TG h
theorem TO {a:Int} {fl p:Nat} (h:IntKind.i64.wrap a=(fl:Int)) (b:fl<1024) (ai:p<1024):IntKind.i64.wrap ((BitVec.ofInt IntKind.i64.bits a &&& BitVec.ofInt IntKind.i64.bits (p:Int)).toNat:Int)=((fl &&& p:Nat):Int):=by
 rw[←B4 a,h];exact TI b ai
theorem TP (w:World) (a:iK):Calls prog 343 [s8 a].toArray w (λe w'=>e= .returned (.bool (fw (W a)))∧Ext [] w w'):=by
 refine aW func343 ntmps343 ?_;refine ah ?_;intro k l m;refine bw ?_;refine ao rfl E6 rfl (λw' _=>Id w' a.dg a.fn) ?_;refine aq ?_;refine aV 7 rfl (λf=>?_) (λf=>?_);refine ay ?_;refine ao rfl E6 rfl (λw' _=>Id w' a.an a.aM) ?_;refine ar ?_;refine aV 12 rfl (λg=>?_) (λg=>?_);refine ay ?_;refine uz rfl rfl rfl rfl ?_;refine aS ?_;refine aV 18 rfl (λh=>?_) (λh=>?_);have i:=aY h
 have c:=Il.1 i
 refine aC ?_;refine qV rfl rfl rfl (TN c) ?_;refine aR ?_;intro j b;refine⟨?_,b.ext⟩;congr 2
 rw[TF _ aa,yc,f,g];simp[c.1,c.2]
 have i:=a8 h
 refine bw ?_;intro j b;refine⟨?_,b.ext⟩;congr 2
 have c: ¬(0≤IntKind.i64.wrap a.fl∧IntKind.i64.wrap a.fl<1024):=λd=>i (Il.2 d)
 rw[yc,eq_comm,tU,tU,e2];exact .inr (.inr λd=>c ⟨d.1,d.2.1⟩);refine eT ?_;intro j b;exact⟨by rw[yc,g];simp,b.ext⟩;refine nl ?_;intro j b;exact⟨by rw[yc,f];simp,b.ext⟩
theorem TQ (w:World) (V:fv w) (a:iK):
 Calls prog 262 [s8 a].toArray w (λe w'=>e= .returned (.string (bs (nO (W a))))∧Ext [] w w'):=by
 refine aW func262 ntmps262 ?_;refine ah ?_;intro A Zu B;refine aC ?_;refine ao rfl N_ rfl (λw' _=>TP w' a) ?_;refine ah ?_;refine b2 rfl (λh=>?_) (λh=>?_);refine aK ?_;intro X i;exact⟨by rw[nO,ag (by simpa using h)],i.ext⟩;have C:fw (W a)=true:=by simpa using h
 rw[nO,ax C];obtain⟨dg,fn,an,aM,f⟩:=a;have D:=C
 simp only[fw,dY,e3] at D
 obtain⟨F,G,Y,B,_⟩:=D;dsimp only[W] at Y B
 obtain⟨fl,H⟩ : ∃m:Nat,IntKind.i64.wrap f=m:=⟨(IntKind.i64.wrap f).toNat,aa⟩;have Z:W ⟨dg,fn,an,aM,f⟩=⟨dg,fn,an,aM,(fl:Int)⟩:=by simp only[W,H]
 rw[Z];have g:fl<1024:=by omega
 refine ay ?_;intro Zv Zw Zx;refine ay ?_;refine OT (m:=1) (sz:=1) cz rfl a1 ?_;refine bw ?_;intro I Zy Zz;refine ay ?_;refine b3 (ι:=Nat × Value) (λt=>[(1,.pointer (some ⟨A,0,none⟩)),(3,t.2),(20,.slice (some ⟨I,0,none⟩) 10 10),(21,.int .i64 10),(22,.int .i64 (t.1 :Int))]) (λt=>af w [] [aD I (nr.all nN) 231,own 3 1 t.2 (0::kI fl t.1).length (bS.all (0::kI fl t.1)),aD A [.int .i64 dg,.int .i64 fn,.int .i64 an,.int .i64 aM,.int .i64 f] 101]) (λt=>t.1≤10) (λt=>10 - t.1) ?_ ?_;exact λw' b=>⟨(0,_),bN _,(ec rfl rfl rfl rfl rfl),b⟩
 rintro⟨k,u⟩ l;dsimp only at l ⊢
 refine al ?_;refine aj (λc=>?_) (λc=>?_);obtain⟨p,ai⟩ : ∃p,nN[k]? = some p:=⟨nN[k]'(by show k<10;omega),bE _⟩;have n:=c8 ai
 have Za:=Ii p n
 have Zb:=B2 fl k
 have Zc: (0::kI fl k).length≤11:=by simp only[eK];omega
 refine al ?_;refine bD (q:=k) sb rfl rfl rfl a7 aa aa ?_;refine cw zp rfl rfl (rfl) (λw' b j v Zd=>by obtain⟨bX,Ze,_,Zf⟩:=(Rd.hf (E:=nr) (L:=nN) b Has.head rfl a1).at_ ai;cases Ze;exact Zf j v Zd) ?_;refine aq ?_;intro ZA ZB ZC;refine aC ?_;refine qH (q:=1) underlying231 gr rfl rfl rfl aa aa ?_;refine ba bM rfl rfl (λw' b=>b.eM Has.head rfl) ?_;refine qV (r:=((fl &&& p.2 :Nat):Int)) rfl rfl rfl (TO H g Za.1) ?_;refine ah ?_;refine aj (λo=>?_) (λo=>?_);have s:jm fl p.2=true:=by rw[←Ih p n fl g];exact b1 o
 refine ar ?_;refine qH (q:=0) underlying231 gr rfl rfl rfl aa aa ?_;refine ba bM rfl rfl (λw' b=>b.eM Has.head rfl) ?_;refine aq ?_;intro ZD ZE ZF;refine gm dJ rfl rfl rfl bi (λ_=>by exact k6) rfl (ic rfl) (by simp only[maxLen];omega) aa (λZg ZG=>?_);refine aK ?_;refine bg (k+1,Zg) bm bm (ec rfl rfl rfl rfl rfl) (λw' b=>?_);dsimp only;rw[Ig ai,ax s,←mi,bA.hc bS,b0];exact b.rem bv.head;have s: ¬jm fl p.2=true:=by rw[←Ih p n fl g];simpa using o
 refine aC ?_;refine bg (k+1,u) bm bm (ec rfl rfl rfl rfl rfl) (λw' b=>?_);dsimp only;rw[Ig ai,ag s];exact b.rem bv.head;have Zh:k=10:=by omega
 subst Zh;have Zb:=B2 fl 10
 have Zc: (0::kI fl 10).length≤11:=by simp only[eK];omega
 have ZH:=yb dg fn 38
 have ZI:=yb an aM 48
 refine aR ?_;refine wo rfl EX rfl (λw' b=>If w' dg fn 38 (ya F)) (λZJ J ZK K ZL M Zi ZM Zj N=>?_);have Zk:=N.len
 have O:Ext [] w J:=M.ext.dU Zi
 have y:=M.ee
 have ZN:=O.size
 refine ol (E:=bS) (src:=kH dg fn 38) dJ rfl rfl rfl (λ_=>by exact eo) (λw' b=>N.ext b.ext (λk l z=>by have:=Zj k z;omega)) (by simp only[maxLen];omega) aa (λZO ZP=>?_);refine aK ?_;refine wo rfl EX rfl (λw' b=>If w' an aM 48 (ya G)) (λZQ P ZR n6 ZS Q Zl ZT Zm R=>?_);have Zn:=R.len
 have S:=Q.ee
 have Zo:Ext _ J P:=Q.ext.dU Zl
 have T:Ext [] w P:=O.trans Zo (λx d c=>y x d c)
 refine ol (E:=bS) (src:=kH an aM 48) dJ rfl rfl rfl (λ_=>by exact eo) (λw' b=>R.ext b.ext (λk l z=>by have:=Zm k z;omega)) (by simp only[maxLen];omega) aa (λZp ZU=>?_);refine iX (v:=Zp) (Has.tail Has.head) (λZV ZW Zq _ _ _ _=>?_);subst Zq;have d: (0::kI fl 10).length+K+n6≤1000:=by omega
 refine ao (v:= .string (bs (gW (mR ⟨dg,fn,an,aM,(fl:Int)⟩)))) rfl Oa rfl (λw' b=>?_) ?_;have U:=b.has (Has.tail Has.head)
 rw[show bS.all (0::kI fl 10)++bS.all (kH dg fn 38)++bS.all (kH an aM 48)=bS.all (mR ⟨dg,fn,an,aM,(fl:Int)⟩) from by simp only[mR,bA.all_append];rfl] at U
 have Zr: (mR ⟨dg,fn,an,aM,(fl:Int)⟩).length=(0::kI fl 10).length+K+n6:=by
  rw[←Zk,←Zn,mR,b0,b0];rfl
 obtain⟨dE,c9,Zs,Zt⟩:=Rd.fX (E:=bS) U Zr;cases Zs
 exact TH w' (V.ext (T.trans b.ext (λx d c=>y x (S x d aa) c))) _ _ _ _ _ Zt d (Ij F G g);refine ay ?_;intro X i;exact⟨rfl,T.trans i.ext (λx d c=>y x (S x d aa) c)⟩
theorem TR (w:World) (j:fv w) (name:List UInt8) (a:iK) (t b:Int):
 Calls prog 178 [.string (bs name),s8 a,.int .i64 t,.int .i64 b].toArray w (λe w'=>e= .returned (.string (bs (ro name (W a) (eV t) (eV b))))∧Ext [] w w'):=by
 have m:=lZ t
 have o:=lZ b
 have p:=Ik (W a)
 refine aW func178 ntmps178 ?_;refine ah ?_;intro q r s;refine dB ?_;refine aj (λf=>?_) (λf=>?_);refine ah ?_;refine ao rfl NE rfl (λw' g=>TQ w' (j.ext g.ext) a) ?_;refine aR ?_;refine aj (λc=>?_) (λc=>?_);refine aC ?_;refine eE rfl rfl rfl b4 ?_;refine eE rfl rfl rfl b4 ?_;refine eE rfl rfl rfl b4 ?_;refine aC ?_;intro i d;refine⟨?_,d.ext⟩;rw[ro,ax f,ag (λh=>TL h c)];rfl
 refine ay ?_;refine eE rfl rfl rfl b4 ?_;refine eE rfl rfl rfl b4 ?_;refine eE rfl rfl rfl b4 ?_;refine aC ?_;intro i d;refine⟨?_,d.ext⟩;rw[ro,ax f,ax (by
  cases k:fw (W a) with
  | true=>rfl
  | false=>exact absurd (by rw[nO,ag (by simp[k])]) c)]
 simp
 refine al ?_;refine aj (λc=>?_) (λc=>?_);have u:=rn (n:=eV t+1) aa
 have v:=rn (n:=eV b+1) aa
 refine ah ?_;refine ao rfl sh rfl (λw' _=>tm w' t) ?_;refine ar ?_;refine ao rfl sh rfl (λw' _=>tm w' b) ?_;refine ar ?_;intro x y A;refine ao rfl sf rfl (λw' g=>qd w' (j.ext g.ext) _ _ _ _ [((eV t+1 :Nat):Int),((eV b+1 :Nat):Int)] (Rd.hf (E:=bS) g Has.head rfl a1) a1 (by intro z l;simp at l;omega)) ?_;rw[BZ];refine eE rfl rfl rfl b4 ?_;refine eE rfl rfl rfl b4 ?_;refine eE rfl rfl rfl b4 ?_;refine aC ?_;intro i d;refine⟨?_,d.ext⟩;rw[ro,ag f,ax c];simp
 refine aR ?_;intro i d;refine⟨?_,d.ext⟩;rw[ro,ag f,ag c]
end Go.Proofs.YtkeokgcdnfjaaaaGreatDoor.Mq.cS
