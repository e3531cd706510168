/- part 26 of the proof -/
import Derived.Test.YtnfmgboendlmaaaGreatDoorQ25
import Derived.Shelf.Strings.Builder1
import Derived.Shelf.Pu.ToError
set_option linter.all false
namespace Go.Proofs.YtnfmgboendlmaaaGreatDoor.Mq
open RowKit Tryz
variable {P:Program}{n d:Nat}{ops:Array Oper}{Q:cN}{rest:List Oper}{l:Fr}{ty:TypeId}{pos:String}{bf:Array Edge}
variable {B:List Chunk}{A:List Nat}{e:List UInt8}{w:List Value}{p u:Nat}{i:TypeId}{g:UInt8}{v:UInt8->Prop}{o:Value}{j r:World}(b:World)(q:Int)(C:Bool)(c:UInt8)(a:List UInt8)(h:Value)(y:FuncId)(k:UInt8)(f:Nat)(m:List UInt8)(z:UInt8->List UInt8)(t:UInt8)
namespace Os
def nf :Bool:=decide (k.toNat<=c.toNat) && decide (c.toNat<=t.toNat)
def dt :Int:=if nf c 48 57 then (c.toNat:Int) - 48 else if nf c 97 102 then (c.toNat:Int) - 97+10 else if nf c 65 70 then (c.toNat:Int) - 65+10 else -1
def pP :UInt8:=UInt8.ofNat<|16*(dt c).toNat+(dt k).toNat
def gv:List UInt8->List UInt8 × Bool
 | []=>([],true)
 | [c]=>([c],decide<|c≠37)
 | [c,d]=>(c::(gv [d]).1,decide (c≠37) && (gv [d]).2)
 | c::a::b::e=>
  if c≠37 then (c::(gv<|a::b::e).1,(gv<|a::b::e).2)
  else if 0<=dt a/\0<=dt b then (pP a b::(gv e).1,(gv e).2)
  else (37::(gv<|a::b::e).1,false)
def sf :UInt8:=if nf c 65 90 then UInt8.ofNat (c.toNat+32) else c
def Av : -1<=dt c/\dt c<=15:=by
 unfold dt nf;have:=c.toNat_lt
 simp only[dK,eQ];have a: (48 :UInt8).toNat=48:=rfl
 have b: (57 :UInt8).toNat=57:=rfl
 have d: (97 :UInt8).toNat=97:=rfl
 have e: (102 :UInt8).toNat=102:=rfl
 have f: (65 :UInt8).toNat=65:=rfl
 have g: (70 :UInt8).toNat=70:=rfl
 rw[a,b,d,e,f,g];split
 omega
 split
 omega
 split <;> omega
def UD(a: ∀n:_root_.Fin 256,v<|UInt8.ofNat n.val)(c:UInt8):v c:=by
 have:=a ⟨c.toNat,c.toNat_lt⟩
 simpa using this
def JX(c:g≠37)(b:List UInt8):gv (g::b)=(g::(gv b).1,(gv b).2):=by
 match b with
 | []=>simp[gv,c]
 | [d]=>simp[gv,c]
 | a::e::b=>rw[gv,aB c]
def JY{a:UInt8}(c:0<=dt g)(d:0<=dt a)(b:List UInt8):gv (37::g::a::b)=(pP g a::(gv b).1,(gv b).2):=by
 rw[gv,ai au,aB ⟨c,d⟩]
def D1(c: ∀a b f,e=a::b::f-> ¬(0<=dt a/\0<=dt b)):gv (37::e)=(37::(gv e).1,false):=by
 match e,c with
 | [],_=>simp[gv]
 | [d],_=>simp[gv]
 | a::b::e,c=>rw[gv,ai au,ai<|c a b e rfl]
def Aw: ∀(n:Nat)(e:List UInt8),e.length<=n->(gv e).1.length<=e.length
 | _,[],_=>by simp[gv]
 | 0,_::_,d=>by simp at d
 | n+1,j::f,d=>by
  simp only[dV] at d ⊢
  by_cases g:j=37
  subst g;by_cases h: ∃a b c,f=a::b::c/\0<=dt a/\0<=dt b
  obtain⟨a,b,c,rfl,k,l⟩:=h;rw[JY k l];simp only[dV] at d ⊢
  have:=Aw n c aa
  omega
  rw[D1 λa b c m i=>h ⟨a,b,c,m,i.1,i.2⟩];have:=Aw n f aa
  simp only[dV];omega
  rw[JX g];have:=Aw n f aa
  simp only[dV];omega
def Ax:List UInt8:=[102,105,108,101,58,47,47]
def Ay :List UInt8:=a.map sf
def qY :Option (List UInt8 × List UInt8):=
 if 7<=a.length/\Ay (a.take 7)=Ax then
  (if Lib.indexByte (a.drop 7) 47<0 then none else some ((a.drop 7).take (Lib.indexByte (a.drop 7) 47).toNat,(gv<|(a.drop 7).drop (Lib.indexByte (a.drop 7) 47).toNat).1))
 else none
def tF :
 ay 448 [.int .u8 (c.toNat:Int),.int .u8 (k.toNat:Int),.int .u8 (t.toNat:Int)] b (λe f=>e= .returned (.bool<|nf c k t)/\f=b):=by
 refine calls (n:=15) func448 rfl ntmps448 rfl<|bP ?_;refine bl 10 rfl (λa=>?_) λa=>?_;have g:=bg a
 refine b6 ?_;exact λh d=>⟨by unfold nf;rw[bI (show k.toNat<=c.toNat by omega)];simp,d⟩
 have g:=bm a
 refine a6 ?_;exact λh d=>⟨by unfold nf;rw[bJ (show ¬k.toNat<=c.toNat by omega)];rfl,d⟩
def JZ :
 ay 502 [.int .u8 (c.toNat:Int)] b (λi a=>i= .returned (ad<|dt c)/\a=b):=by
 have j:=c.toNat_lt
 refine calls (n:=23) func502 rfl ntmps502 rfl<|be ?_;refine lA (λa _=>tF a c 48 57)<|ap ?_;refine cD rfl (λd=>?_) λd=>ap ?_;have e:48<=c.toNat:=by simp[nf] at d;exact d.1
 refine ap ?_;refine hB rfl rfl rfl (r:=(c.toNat:Int) - 48) (mN aa aa)<|aY ?_;exact λh f=>⟨by rw[dt,aB d],f⟩
 refine lA (λa _=>tF a c 97 102)<|ap ?_;refine cD rfl (λe=>?_) λe=>ap ?_;have g:97<=c.toNat:=by simp[nf] at e;exact e.1
 refine ap ?_;refine hB rfl rfl rfl (r:=(c.toNat:Int) - 97) (mN aa aa)<|a6 ?_;exact λh f=>⟨by rw[dt,ai<|by simp[d],aB e],f⟩
 refine lA (λa _=>tF a c 65 70)<|ap ?_;refine cD rfl (λg=>?_) λg=>be ?_;have k:65<=c.toNat:=by simp[nf] at g;exact g.1
 refine ap ?_;refine hB rfl rfl rfl (r:=(c.toNat:Int) - 65) (mN aa aa)<|a6 ?_;exact λh f=>⟨by rw[dt,ai<|by simp[d],ai<|by simp[e],aB g],f⟩
 exact λh f=>⟨by rw[dt,ai<|by simp[d],ai<|by simp[e],ai<|by simp[g]],f⟩
def UE(c:UInt8):
 ay 377 [bU a,.int .u8 (c.toNat:Int)] b (λe d=>e= .returned (ad<|Lib.indexByte a c)/\d=b):=by
 refine calls (n:=8) func377 rfl ntmps377 rfl<|a6 ?_;refine lA (λd _=>IP d a c)<|aI ?_;exact λg f=>⟨rfl,f⟩
def Az :Int:=IntKind.u8.wrap (((max 0<|dt c).toNat*16 ||| (max 0<|dt k).toNat:Nat):Int)
def vH :Value:=if f+2<a.length then .tuple #[.int .u8 (Az (a.getD (f+1) 0)<|a.getD (f+2) 0),.bool<|decide (0<=dt (a.getD (f+1) 0)) && decide (0<=dt (a.getD (f+2) 0))] else .tuple #[.int .u8 0,.bool false]
def J0(k:World)(d:List UInt8)(c:Nat)(s:d.length<=1000000)(t:c<d.length):
 ay 488 [bU d,ad (c:Int)] k (λq e=>q= .returned (vH d c)/\Ext [] k e):=by
 refine ba func488 ntmps488 ?_;refine (aE) (λr=>a6 ?_) λr=>?_;exact λl f=>⟨by rw[vH,ai aa],f.ext⟩
 obtain⟨a,m⟩ : ∃a,d[c+1]? = some a:=⟨d[c+1]'aa,bD _⟩;obtain⟨b,n⟩ : ∃b,d[c+2]? = some b:=⟨d[c+2]'aa,bD _⟩;have u:=Av a
 have v:=Av b
 refine ap ?_;refine bN [0,1,2,3,4,5,6,7,8,9,10,11] 0 [[]] ?_;refine ap ?_;refine aO rfl (λg h=>(j2 (q:=c+1) underlying9 rfl rfl rfl aa m aJ)) ?_;refine aO rfl (λg h=>(lA (λe _=>JZ e a) aJ)) ?_;refine ap ?_;refine aO rfl (λg h=>(j2 (q:=c+2) underlying9 rfl rfl rfl aa n aJ)) ?_;refine aO rfl (λg h=>(lA (λe _=>JZ e b) aJ)) ?_;refine aH ?_;have w: (max 0<|dt a).toNat*16 ||| (max 0<|dt b).toNat<2 ^ 8:=ou aa aa
 refine ap ?_;refine pj rfl rfl rfl aW (r:=max 0 (dt a)*16) (by rw[show min (4 :Int).toNat IntKind.i64.bits=4 from rfl];exact wrap64 aa aa) ?_;refine aA ?_;refine mO rfl rfl rfl (r:=(((max 0<|dt a).toNat*16 ||| (max 0<|dt b).toNat:Nat):Int)) (or_eq (m:=(max 0<|dt a).toNat*16) (n:=(max 0<|dt b).toNat) aa aa (by show _<2 ^ 64;omega) (by show _<2 ^ 64;omega)<|wrap64 aa aa) ?_;refine dW rfl rfl underlying3 underlying5 (r:=Az a b) rfl<|ap ?_;have o:d.getD (c+1) 0=a:=by simp[List.getD,m]
 have p:d.getD (c+2) 0=b:=by simp[List.getD,n]
 refine bl 32 rfl (λi=>?_) λi=>?_;have j:=bg i
 refine bP ?_;exact λl f=>⟨by rw[vH,aB aa,o,p,bI j,Bool.true_and],f.ext⟩
 have j:=bm i
 refine a6 ?_;exact λl f=>⟨by rw[vH,aB aa,o,p,bJ j,Bool.false_and],f.ext⟩
def UF :
 ay 447 [.int .u8 (c.toNat:Int)] b (λg a=>g= .returned (.string<|bs [sf c])/\Ext [] b a):=by
 have l:=c.toNat_lt
 refine ba func447 ntmps447 ?_;refine a6 ?_;refine lA (λa _=>tF a c 65 90)<|aA ?_;refine cD rfl (λd=>?_) λd=>aH ?_;have m:c.toNat<=90:=by simp[nf] at d;exact d.2
 refine aA ?_;refine jB rfl rfl rfl (r:=((sf c).toNat:Int)) (by rw[mN aa aa,sf,aB d];simp;omega) ?_;refine aU ?_;intro h i j;refine kF (s:=[sf c]) underlying48 underlying5 underlying9 rfl rfl (λa e=>Rd.iR (E:=cI) (L:=[sf c]) e Has.head rfl aW)<|aI ?_;exact λk f=>⟨rfl,f.ext⟩
 intro h i j;refine kF (s:=[c]) underlying48 underlying5 underlying9 rfl rfl (λa e=>Rd.iR (E:=cI) (L:=[c]) e Has.head rfl aW)<|aI ?_;exact λk f=>⟨by rw[sf,ai<|by simp[d]],f.ext⟩
def vI:Shelf.Ren:=⟨λ| 166=>99 | 169=>43 | 240=>161 | 276=>239 | n=>n,λ| 0=>0 | 3=>3 | 4=>4 | 5=>5 | 9=>9 | 20=>20 | 37=>48 | 70=>102 | 72=>104 | 75=>193 | 80=>111 | 127=>197 | 164=>328 | n=>n,λn=>n⟩
def UG:Lays.n166 prog vI where
 mixed:=by kernel_rfl
 f166:=func99.trans<|a_ some ak
 f240:=func161.trans<|a_ some ak
 f276:=func239.trans<|a_ some ak
 t0:=underlying0
 a0:=isAgg0
 z0:=sizeOf0
 v0:=zeroValue0
 t3:=underlying3
 a3:=isAgg3
 z3:=sizeOf3
 v3:=zeroValue3
 t4:=underlying4
 a4:=isAgg4
 z4:=sizeOf4
 v4:=zeroValue4
 t9:=underlying9
 a9:=isAgg9
 z9:=sizeOf9
 v9:=zeroValue9
 t20:=underlying20
 a20:=isAgg20
 z20:=sizeOf20
 v20:=zeroValue20
 t37:=underlying48
 a37:=isAgg48
 z37:=sizeOf48
 v37:=zeroValue48
 t70:=underlying102
 a70:=isAgg102
 z70:=sizeOf102
 v70:=zeroValue102
 t72:=underlying104
 a72:=isAgg104
 z72:=sizeOf104
 v72:=zeroValue104
 t75:=underlying193
 a75:=isAgg193
 z75:=sizeOf193
 v75:=zeroValue193
 t164:=underlying328
 a164:=isAgg328
 z164:=sizeOf328
 v164:=zeroValue328
def AA:Lays.n169 prog vI where
 mixed:=by kernel_rfl
 f169:=func43.trans<|a_ some ak
 t0:=underlying0
 a0:=isAgg0
 z0:=sizeOf0
 v0:=zeroValue0
 t3:=underlying3
 a3:=isAgg3
 z3:=sizeOf3
 v3:=zeroValue3
 t9:=underlying9
 a9:=isAgg9
 z9:=sizeOf9
 v9:=zeroValue9
 t37:=underlying48
 a37:=isAgg48
 z37:=sizeOf48
 v37:=zeroValue48
 t70:=underlying102
 a70:=isAgg102
 z70:=sizeOf102
 v70:=zeroValue102
 t72:=underlying104
 a72:=isAgg104
 z72:=sizeOf104
 v72:=zeroValue104
 t127:=underlying197
 a127:=isAgg197
 z127:=sizeOf197
 v127:=zeroValue197
def xP:Builder.Extra prog vI where
 sizeBuilder:=by kernel_rfl
 liesBuilder:=by kernel_rfl
 t5:=underlying5
 a5:=isAgg5
 z5:=sizeOf5
 v5:=zeroValue5
 infoByte:=by kernel_rfl
 cellsByte:=by kernel_rfl
 sizeByte:=by kernel_rfl
 neB5:=by decide
def UH.ext{b:TypeId}(g:Lib.IsBuilder i b p u w j)(a:Ext [] j r):Lib.IsBuilder i b p u w r:=by
 have d: ∀c,Lib.BuilderAt i b p u c w j->Lib.BuilderAt i b p u c w r:=by
  intro c e;have h:=e.lt
  obtain⟨k,f,l,m,n⟩:=e;refine⟨k,f,?_,m.kept (row:=none) ⟨a.os,a.tape,a.output,a.size,λo q _=>a.block o q au⟩ ?_,n⟩;rw[a.block u h au];exact l
  cases f.ownBlock <;> simp
 exact g.elim (λx=> .inl<|d _ x) λx=> .inr<|d _ x
def vJ(c:List UInt8)(a:World):Prop:=Ext [] b a/\Lib.IsBuilder 104 5 b.heap.size f (Lib.byteCells c) a
def Ext.AB{c:World}(a:Ext [] j r)(b:Below j.heap.size r c):Ext [] j c:=
 ⟨b.os.trans a.os,b.tape.trans a.tape,b.output.trans a.output,ge a.size b.size,λd e f=>(b.block d e).trans<|a.block d e f⟩
def DT(c a:List UInt8)(e:World)(g:vJ b f c e)(i:c.length+a.length<=140737488355328):
 ay 99 [.pointer (some ⟨f,0,none⟩),bU a] e (λd h=>d= .returned (.tuple #[ad (a.length:Int),.nilIface])/\vJ b f (c++a) h):=by
 have:=Any.Builder_WriteString UG xP b.heap.size f (Lib.byteCells c) (bs a) e g.2 (by rw[Lib.byteCells_length,jf];exact i) g.1.size
 refine Calls.mono this ?_;rintro d h ⟨rfl,j,k⟩;refine⟨by rw[jf],Ext.AB g.1 k,.inr ?_⟩;have d:Lib.byteCells (c++a)=Lib.byteCells c++Lib.strCells (bs a):=by rw[Lib.strCells_eq];simp[Lib.byteCells]
 rw[d];exact j
def UI(a:List UInt8)(c:World)(d:vJ b f a c):
 ay 43 [.pointer (some ⟨f,0,none⟩)] c (λe g=>e= .returned (bU a)/\Ext [] b g):=by
 focus (by_cases h:a=[];subst h;refine Calls.mono (Any.Builder_String_empty AA xP b.heap.size f c d.2 d.1.size) ?_;rotate_left;refine Calls.mono (Any.Builder_String AA xP b.heap.size f a c d.2 h) ?_;all_goals (rintro e g ⟨rfl,i⟩;exact⟨rfl,Ext.AB d.1 i⟩))
def z7(m:dX prog y)(n: ∀d c,Calls prog y [.int .u8 (UInt8.toNat c:Int)].toArray d λg h=>g= .returned (bU<|z c)/\Ext [] d h)(i: ∀c,(z c).length<=3)(s:List UInt8)(w:s.length<=1000000):
 ay 446 [bU s,.func (.func y) #[] #[]] b (λg d=>g= .returned (bU<|s.flatMap z)/\Ext [] b d):=by
 have o: ∀l:List UInt8,(l.flatMap z).length<=3*l.length:=by
  intro l;induction l with
  | nil=>simp
  | cons c l x=>have:=i c;simp only[nA,b3,dV];omega
 refine ba func446 ntmps446 ?_;refine aY ?_;intro f p A;refine a6 ?_;refine cd (ι:=Nat) (λa=>[(0,bU s),(1,.func (.func y) #[] #[]),(5,.pointer<|some ⟨f,0,none⟩),(6,ad (a:Int))]) (λa=>vJ b f<|(s.take a).flatMap z) (λa=>a<=s.length) (λa=>s.length - a) ?_ ?_;refine λd e=>⟨0,b4 _,(da rfl rfl rfl rfl),e.ext,.inl ?_⟩
 have q:=e.has (c:=aG f [.pointer none,.slice none 0 0] 104) Has.head
 exact⟨p,.slice none 0 0,q,World.ownsRow_nil _ _ _ _,by simp[Value.ownBlock]⟩;rintro a B;refine (aE) (λr=>?_) λr=>?_;obtain⟨c,j⟩ : ∃c,s[a]? = some c:=⟨s[a]'aa,bD _⟩;have t: (s.take<|a+1).flatMap z=(s.take a).flatMap z++z c:=by rw[hA,j,rp,sw];simp
 have C:=o<|s.take a
 have D:=i c
 have E: (s.take a).length<=s.length:=by rw[dR];omega
 refine aY ?_;refine j2 (q:=a) underlying9 rfl rfl rfl aa j<|BV (v:=bU<|z c) (H':=vJ b f<|(s.take a).flatMap z) rfl (hcb:=m) (λd e=>?_) ?_;refine Calls.mono (n d c) ?_;rintro g h ⟨rfl,k⟩;exact⟨rfl,e.1.eC k,UH.ext e.2 k⟩;refine uH (v:= .tuple #[ad ((z c).length:Int),.nilIface]) (H':=vJ b f<|(s.take<|a+1).flatMap z) (λd e=>?_) ?_;rw[t];exact DT b f _ (z c) d e aa;refine aY ?_;exact bv (a+1) aa aa b5 λd e=>e;have u:s.take a=s:=eT aa
 rw[u];refine aU ?_;refine uH (v:=bU<|s.flatMap z) (H':=λd=>Ext [] b d) (UI b f _ · ·) ?_;refine aI ?_;exact λF v=>⟨rfl,v⟩
def UJ(d:a.length<=1000000):
 ay 376 [bU a] b (λe f=>e= .returned (bU<|Ay a)/\Ext [] b f):=by
 refine ba func376 ntmps376 ?_;refine aY ?_;refine bF (z7 · 447 (λc=>[sf c]) cL (UF · ·) (λc=>by simp) a d) ?_;refine aI ?_;intro h g;refine⟨?_,g.ext⟩;rw[Ay,List.map_eq_flatMap]
set_option maxRecDepth 100000 in
def UK: ∀a b:_root_.Fin 16,a.val*16 ||| b.val=a.val*16+b.val:=by decide
def UL{a b:UInt8}(f:0<=dt a)(g:0<=dt b):Az a b=((pP a b).toNat:Int):=by
 have h:=Av a
 have i:=Av b
 have d:max 0 (dt a)=dt a:=by omega
 have e:max 0 (dt b)=dt b:=by omega
 have c:=UK ⟨(dt a).toNat,aa⟩ ⟨(dt b).toNat,aa⟩
 dsimp only at c
 rw[Az,d,e,c,mN aa aa,pP];have: (UInt8.ofNat<|16*(dt a).toNat+(dt b).toNat).toNat=16*(dt a).toNat+(dt b).toNat:=by
  rw[ky];omega
 omega
def B7(p:World)(d:List UInt8)(u:d.length<=1000000):
 ay 450 [bU d] p (λi k=>i= .returned (.tuple #[.string (bs (gv d).1),.bool (gv d).2])/\Ext [] p k):=by
 refine ba func450 ntmps450 ?_;refine aU ?_;refine lz 5 1<|fa ?_;refine cd (ι:=Nat × Value × List UInt8 × Bool) (λf=>[(0,bU d),(4,f.2.1),(5,.bool f.2.2.2),(6,ad (f.1 :Int))]) (λf=>ag p [] [own 5 1 f.2.1 f.2.2.1.length (cI.all f.2.2.1)]) (λf=>f.1<=d.length/\f.2.2.1.length<=f.1/\gv d=(f.2.2.1++(gv<|d.drop f.1).1,f.2.2.2 && (gv<|d.drop f.1).2)) (λf=>d.length - f.1) ?_ ?_;exact λk h=>⟨(0,.slice none 0 0,[],true),⟨b4 _,b4 _,by simp⟩,(da rfl rfl rfl rfl),h⟩
 rintro⟨e,C,j,v⟩ ⟨D,E,g⟩;dsimp only at D E g ⊢
 refine (aE) (λF=>?_) λF=>?_;obtain⟨c,q⟩ : ∃c,d[e]? = some c:=⟨d[e]'aa,bD _⟩;have G:d.drop e=c::d.drop (e+1):=by rw[lY aa,(cH.1 q).2]
 have o: ∀x:UInt8,cI.all (j++[x])=cI.all j++cI.enc x:=λx=>b1.iP cI j x
 rw[G] at g
 refine a6 ?_;refine j2 (q:=e) underlying9 rfl rfl rfl aa q ?_;refine (aE) (λw=>?_) λw=>?_;have r:c≠37:=λi=>w (by rw[i];rfl)
 refine aI ?_;refine j2 (q:=e) underlying9 rfl rfl rfl aa q<|av ?_;intro X Y Z;refine hW hC rfl rfl rfl bx (λ_=>by exact cJ) rfl (jE rfl) (by simp only[maxLen];omega) aa λH Za=>?_;refine b6 ?_;rw[JX r] at g
 refine bv (e+1,H,j++[c],v) ⟨by dsimp only;omega,by simp;omega,by rw[g];simp⟩ bL (da rfl rfl rfl rfl) λk h=>?_;dsimp only;rw[o,b3];exact h;have r:c=37:=UInt8.toNat_inj.1 (by have: (37 :UInt8).toNat=37:=rfl;omega)
 subst r;refine a7 ?_;by_cases y:e+2<d.length
 obtain⟨a,z⟩ : ∃a,d[e+1]? = some a:=⟨d[e+1]'aa,bD _⟩;obtain⟨b,A⟩ : ∃b,d[e+2]? = some b:=⟨d[e+2]'aa,bD _⟩;have I:d.getD (e+1) 0=a:=by simp[List.getD,z]
 have J:d.getD (e+2) 0=b:=by simp[List.getD,A]
 have B:d.drop (e+1)=a::b::d.drop (e+3):=by rw[lY aa,(cH.1 z).2,lY aa,(cH.1 A).2]
 refine ap ?_;refine bF (J0 · d e u aa) ?_;rw[vH,aB y,I,J];refine b6 ?_;refine cD rfl (λl=>?_) λl=>?_;simp only[dK,eQ] at l
 rw[B,JY l.1 l.2] at g
 rw[UL l.1 l.2];refine aI ?_;intro Zb Zc Zd;refine hW hC rfl rfl rfl bx (λ_=>by exact cJ) rfl (jE rfl) (by simp only[maxLen];omega) aa λK Ze=>?_;refine fT ?_;refine bv (e+3,K,j++[pP a b],v) ⟨by dsimp only;omega,by simp;omega,by rw[g];simp⟩ bL (Sub.cons bo<|Sub.cons bo<|Sub.cons bo<|Sub.cons (by simp[look];omega) Sub.nil) λk h=>?_;dsimp only;rw[o,b3];exact h;simp only[wq,fZ] at l
 have s: ∀x m n,d.drop (e+1)=x::m::n-> ¬(0<=dt x/\0<=dt m):=λx m n i=>by
  rw[B] at i
  simp only[ug] at i
  obtain⟨rfl,rfl,_⟩:=i;omega
 rw[D1 s] at g
 refine aH ?_;intro L M N;refine hW hC rfl rfl rfl bx (λ_=>by exact cJ) rfl (jE rfl) (by simp only[maxLen];omega) aa λt O=>?_;refine cn ?_;refine bv (e+1,t,j++[37],false) ⟨by dsimp only;omega,by simp;omega,by rw[g];simp⟩ bL (da rfl rfl rfl rfl) λk h=>?_;dsimp only;rw[o,b3];exact h;have s: ∀x m n,d.drop (e+1)=x::m::n-> ¬(0<=dt x/\0<=dt m):=λx m n i=>by
  have:=a_ List.length i
  simp at this
  omega
 rw[D1 s] at g
 refine ap ?_;refine bF (J0 · d e u aa) ?_;rw[vH,ai y];refine fT ?_;intro L M N;refine hW hC rfl rfl rfl bx (λ_=>by exact cJ) rfl (jE rfl) (by simp only[maxLen];omega) aa λt O=>?_;refine cn ?_;refine bv (e+1,t,j++[37],false) ⟨by dsimp only;omega,by simp;omega,by rw[g];simp⟩ bL (da rfl rfl rfl rfl) λk h=>?_;dsimp only;rw[o,b3];exact h;have P:e=d.length:=by omega
 refine jd (v:=C) Has.head λQ R S Zf Zg Zh Zi=>?_;subst S;refine aY ?_;refine kF (s:=j) (F:=λT=>(Value.slice Q j.length R).ownBlock=some T) underlying48 underlying5 underlying9 rfl rfl (λk h=>?_) ?_;obtain⟨Zj,Zk,U,V⟩:=Rd.ho (E:=cI) (h.has Has.head) rfl;cases U
 exact V;refine aU ?_;intro Zl W;subst P;rw[uh] at g
 refine⟨?_,W.ext⟩;rw[g];simp[gv]
def UM(c:a.length<=1000000):
 ay 378 [bU a] b (λd e=>d= .returned (.string<|bs (gv a).1)/\Ext [] b e):=by
 refine ba func378 ntmps378 ?_;refine aY ?_;refine bF (B7 · a c)<|dO ?_;exact λg f=>⟨rfl,f.ext⟩
def qZ :Value:=match qY a with
 | some b=> .tuple #[.string (bs b.1),.string<|bs b.2,.int .i64 0]
 | none=> .tuple #[.string (bs []),.string<|bs [],.int .i64 4]
def UN(r:a.length<=1000000):
 ay 300 [bU a] b (λm e=>m= .returned (qZ a)/\Ext [] b e):=by
 refine ba func300 ntmps300 ?_;refine cZ ?_;refine bl 10 rfl (λf=>?_) λf=>?_;have n:=bg f
 refine gQ ?_;exact λg c=>⟨by rw[qZ,qY,ai aa],c.ext⟩
 have n:=bm f
 have s: (a.take 7).length=7:=by rw[dR];omega
 refine ap ?_;refine sS 7 underlying9 rfl rfl rfl bo aa<|av ?_;refine bF (UJ · (a.take 7) aa)<|av ?_;refine BB rfl rfl rfl ?_;refine (aE) (λh=>be ?_) λh=>?_;exact λg c=>⟨by rw[qZ,qY,ai<|by rintro⟨_,j⟩;exact h<|by simpa [Ax] using j],c.ext⟩
 have k:Ay (a.take 7)=Ax:=by simpa [Ax] using h
 refine aI ?_;refine sR 7 underlying9 rfl rfl rfl bo aa<|aH ?_;refine lA (λe _=>UE e (a.drop 7) 47) ?_;refine (aE) (λi=>be ?_) λi=>?_;exact λg c=>⟨by rw[qZ,qY,aB ⟨aa,k⟩,aB i],c.ext⟩
 rcases xu (a.drop 7) 47 with ⟨_,j⟩ | ⟨d,t,o,u,l⟩
 omega
 have v:d.length<=(a.drop 7).length:=by rw[o];simp
 have w: (a.drop 7).length<=1000000:=by rw[fL];omega
 rw[l];refine ap ?_;refine bN [0,1,2,3,4,5] 1 [[(6,false,[7,8,9])]] ?_;refine aA ?_;refine aO rfl (λp q=>(sS d.length underlying9 rfl rfl rfl bo aa aJ))<|aA ?_;refine aO rfl (λp q=>(sR d.length underlying9 rfl rfl rfl bo aa aJ))<|aA ?_;refine bF (UM · ((a.drop 7).drop d.length) (by rw[fL];omega)) ?_;refine a6 ?_;intro g c;refine⟨?_,c.ext⟩;rw[qZ,qY,aB ⟨aa,k⟩,ai i,l];rfl
def vK :Bool:=decide (m.length<=a.length) && decide (a.take m.length=m)
def UO :
 ay 451 [bU a,bU m] b (λe f=>e= .returned (.bool<|vK a m)/\f=b):=by
 refine calls (n:=18) func451 rfl ntmps451 rfl<|cn ?_;refine bl 10 rfl (λc=>?_) λc=>?_;have g:=bg c
 refine aU ?_;refine sS m.length underlying9 rfl rfl rfl bo aa<|be ?_;exact λh d=>⟨by rw[vK,bI (by omega:m.length<=a.length),Bool.true_and],d⟩
 have g:=bm c
 refine b6 ?_;exact λh d=>⟨by rw[vK,bJ (by omega: ¬m.length<=a.length),Bool.false_and],d⟩
def J1 :
 ay 444 [bU a,bU m] b (λd c=>d= .returned (.bool<|vK a m)/\c=b):=by
 refine calls (n:=8) func444 rfl ntmps444 rfl<|a6 ?_;refine lA (λc _=>UO c a m)<|aI ?_;exact λf e=>⟨rfl,e⟩
section
variable {H:World->Prop}{x:Operand}
def n3(a:P.concrete i=true)(b:Nat.blt d n=true)(c:bi l x=some o)(e:aM P n ops Q rest ((d,.iface i o)::l) H):
 aM P n ops Q (⟨some d,.makeInterface i x,ty,pos,bf,none⟩::rest) l H:=
 dB _ b (λj f g=>by
  have h:=run_makeInterface (P:=P) f i o a
  simp[execOp,g x _ c,h]) e
end
def n4 :ay 510 [.int .u8 (c.toNat:Int)] b (λa d=>a= .returned (.int .u8 ((c.toNat ||| 32 :Nat):Int))/\Ext [] b d):=by
 have e:=UInt8.toNat_lt c
 have g:c.toNat ||| 32<2 ^ 8:=ou e aW
 refine ba func510 ntmps510 ?_;refine aY ?_;refine mO (r:=((c.toNat ||| 32 :Nat):Int)) rfl rfl rfl (or_eq (m:=c.toNat) (n:=32) rfl rfl (by simp only[IntKind.bits];omega) aW<|mN aa aa) ?_;refine aI ?_;exact λh f=>⟨rfl,f.ext⟩
def J2: ∀a:UInt8,¬(48<=a.toNat/\a.toNat<=57)->((97<=(a.toNat ||| 32)/\(a.toNat ||| 32)<=122)/\(a.toNat ||| 32) - 87<16->dt a=(((a.toNat ||| 32) - 87 :Nat):Int))/\(¬(97<=(a.toNat ||| 32)/\(a.toNat ||| 32)<=122)\/16<=(a.toNat ||| 32) - 87->dt a= -1):=by
 refine UD ?_;decide+kernel
def xQ :Prop:=f<16/\dt c=(f:Int)
def n5(a: ¬(48<=g.toNat/\g.toNat<=57))(b: ¬(97<=(g.toNat ||| 32)/\(g.toNat ||| 32)<=122)\/16<=(g.toNat ||| 32) - 87):dt g= -1:=(J2 g a).2 b
def J3(a:48<=g.toNat/\g.toNat<=57):xQ g (g.toNat - 48):=by
 refine⟨aa,?_⟩;have b: (48 :UInt8).toNat=48:=rfl
 have c: (57 :UInt8).toNat=57:=rfl
 unfold dt nf;rw[aB (by rw[b,c,bI a.1,bI a.2];rfl)];omega
def AC(b: ¬(48<=g.toNat/\g.toNat<=57))(c:97<=(g.toNat ||| 32)/\(g.toNat ||| 32)<=122)(a: (g.toNat ||| 32) - 87<16):xQ g ((g.toNat ||| 32) - 87):=⟨a,(J2 g b).1 ⟨c,a⟩⟩
def J4(b:ag j A B r)(c:Has B (iW p u<|cI.all e)){k:Nat}{a:UInt8}(d:e[k]? = some a):r.cell? ((⟨p,0,none⟩ :Addr).add<|k*1)=some (.int .u8 (a.toNat:Int)):=by
 rw[Addr.add_lit,ev];exact ag.JW b c<|cI.nE (j:=0) d rfl
def J5(d:Value):Prop:=
 (∃a b:Nat,a<16/\b<16/\dt c=(a:Int)/\dt k=(b:Int)/\d= .tuple #[.int .u64 ((16*a+b:Nat):Int),.nilIface])\/
 ((dt c= -1\/dt k= -1)/\d= .tuple #[.int .u64 0,.iface 483<|ad 2])
def UP(a:Nat):Prop:=(f=0/\a=0)\/(f=1/\xQ c a)\/(f=2/\ ∃b d,xQ c b/\xQ k d/\a=16*b+d)
def UQ(a c:UInt8):ay 501 [.string (bs [a,c]),ad 16,ad 8] b (pi (λy _=>J5 a c y) b):=by
 have C:=UInt8.toNat_lt a
 have D:=UInt8.toNat_lt c
 refine ba func501 ntmps501 ?_;refine cn ?_;refine ff rfl ((bJ au))<|Oz ?_;refine wP ?_;refine dW (r:=8) rfl rfl underlying3 underlying276 rfl<|pj (r:=256) rfl rfl rfl aW rfl<|hB (r:=255) rfl rfl rfl rfl<|ft ?_;refine xO (s:=[a,c]) underlying9 underlying48 underlying5 rfl rfl (by show 2<=1000000;decide) λcu q E F G H=>?_;refine aI ?_;refine cd (ι:=Nat × Nat) (λj=>[(1,ad 16),(8,.bool false),(10,.int .u64 1152921504606846976),(11,.int .u64 255),(12,.bool false),(13,.int .u64 (j.2 :Int)),(99,.slice (some ⟨cu,0,none⟩) 2 q),(100,ad 2),(101,ad (j.1 :Int))]) (λ_=>ag b [] [iW cu 5 (cI.all [a,c])]) (λj=>UP a c j.1 j.2) (λj=>2 - j.1) ?_ ?_
 ·exact λi e=>⟨(0,0),.inl ⟨rfl,rfl⟩,(uK rfl rfl rfl rfl rfl rfl rfl rfl rfl),e⟩
 ·rintro⟨I,h⟩ v
  dsimp only at v ⊢
  rcases v with ⟨rfl,rfl⟩ | ⟨rfl,p⟩ | ⟨rfl,z,A,w,x,rfl⟩
  ·have B:a.toNat ||| 32<256:=ou (n:=8) aa aW
   refine aH ?_;refine e_ rfl ((bI aa))<|aH ?_;refine bE (q:=0) hC rfl rfl rfl bo aa aa<|bb pg rfl rfl (λi e=>J4 e Has.head (k:=0) (a:=a) rfl)<|bP ?_;refine mG ([(1,ad 16),(8,.bool false),(10,.int .u64 1152921504606846976),(11,.int .u64 255),(12,.bool false),(13,.int .u64 ((0 :Nat):Int)),(99,.slice (some ⟨cu,0,none⟩) 2 q),(100,ad 2),(101,ad ((0 :Nat):Int)),(15,.int .u8 (a.toNat:Int)),(106,.bool false)]) (ag b [] [iW cu 5 (cI.all [a,c])]) (a7 ?_)<|aU ?_
   ·focus (refine bl 109 rfl (λk=>?_) λk=>?_;have r:=bg k;refine aI ?_;rotate_left;have r:=bm k;refine a7 ?_;all_goals (exact iQ (Sub.cons rfl<|qo rfl rfl rfl rfl rfl rfl rfl rfl rfl rfl) λ_ s=>s))
   ·refine bl 115 rfl (λl=>?_) λl=>?_
    ·have t:=bg l
     refine (aE) (λu=>aA ?_) λu=>ap ?_
     ·refine hB (r:=((a.toNat - 48 :Nat):Int)) rfl rfl rfl (by rw[IntKind.wrap_u8];omega) ?_
      refine a6 ?_;refine dW (r:=16) rfl rfl underlying3 underlying5 rfl<|ap ?_;refine ff rfl ((bJ aa))<|be ?_;refine ff rfl ((bJ aa))<|aH ?_;refine dW (r:=16) rfl rfl underlying3 underlying63 rfl ?_;refine mD (r:=(((0 :Nat)*16 :Nat):Int)) rfl rfl rfl (by rw[IntKind.wrap_u64];omega) ?_;refine aU ?_;refine dW (r:=((a.toNat - 48 :Nat):Int)) rfl rfl underlying5 underlying63 (by rw[IntKind.wrap_u64];omega) ?_;refine jB (r:=(((0 :Nat)*16+(a.toNat - 48):Nat):Int)) rfl rfl rfl (by rw[IntKind.wrap_u64];omega) ?_;refine be ?_;refine bO rfl rfl (bJ aa)<|av ?_;refine bO rfl rfl (bJ aa)<|av ?_;refine bO rfl rfl (bJ aa)<|av ?_;refine hd rfl rfl (bJ aa) rfl<|aA ?_;refine ff rfl ((bJ aa))<|b6 ?_;exact bv (1,0*16+(a.toNat - 48)) (.inr<|.inl ⟨rfl,by rw[sM,ev];exact (J3 aa)⟩) bL b5 λi e=>e
     ·refine bF (n4 · a)<|aA ?_
      refine bl 125 rfl (λf=>?_) λf=>?_
      ·have m:=bg f
       refine ap ?_;refine bF (n4 · a) ?_;refine (aE) (λn=>aA ?_) λn=>aA ?_
       ·refine bF (n4 · a) ?_
        refine hB (r:=(((a.toNat ||| 32) - 97 :Nat):Int)) rfl rfl rfl (by rw[IntKind.wrap_u8];omega) ?_;refine jB (r:=(((a.toNat ||| 32) - 87 :Nat):Int)) rfl rfl rfl (by rw[IntKind.wrap_u8];omega) ?_;refine a6 ?_;refine dW (r:=16) rfl rfl underlying3 underlying5 rfl ?_;refine (aE) (λo=>aA ?_) λo=>be ?_
        ·refine n3 ak rfl rfl<|b6 ?_
         exact λg d=>⟨_,rfl,d.ext,.inr ⟨.inl<|n5 aa<|.inr aa,rfl⟩⟩
        ·refine ff rfl ((bJ aa))<|aH ?_
         refine dW (r:=16) rfl rfl underlying3 underlying63 rfl ?_;refine mD (r:=(((0 :Nat)*16 :Nat):Int)) rfl rfl rfl (by rw[IntKind.wrap_u64];omega) ?_;refine aU ?_;refine dW (r:=(((a.toNat ||| 32) - 87 :Nat):Int)) rfl rfl underlying5 underlying63 (by rw[IntKind.wrap_u64];omega) ?_;refine jB (r:=(((0 :Nat)*16+((a.toNat ||| 32) - 87):Nat):Int)) rfl rfl rfl (by rw[IntKind.wrap_u64];omega) ?_;refine be ?_;refine bO rfl rfl (bJ aa)<|av ?_;refine bO rfl rfl (bJ aa)<|av ?_;refine bO rfl rfl (bJ aa)<|av ?_;refine hd rfl rfl (bJ aa) rfl<|aA ?_;refine ff rfl ((bJ aa))<|b6 ?_;exact bv (1,0*16+((a.toNat ||| 32) - 87)) (.inr<|.inl ⟨rfl,by rw[sM,ev];exact (AC aa aa aa)⟩) bL b5 λi e=>e
       ·refine n3 ak rfl rfl<|cn ?_
        exact λg d=>⟨_,rfl,d.ext,.inr ⟨.inl<|n5 aa<|.inl aa,rfl⟩⟩
      ·have m:=bm f
       refine be ?_;refine n3 ak rfl rfl<|cn ?_;exact λg d=>⟨_,rfl,d.ext,.inr ⟨.inl<|n5 aa<|.inl aa,rfl⟩⟩
    ·have t:=bm l
     refine be ?_;refine bF (n4 · a)<|aA ?_;refine bl 125 rfl (λf=>?_) λf=>?_
     ·have m:=bg f
      refine ap ?_;refine bF (n4 · a) ?_;refine (aE) (λn=>aA ?_) λn=>aA ?_
      ·refine bF (n4 · a) ?_
       refine hB (r:=(((a.toNat ||| 32) - 97 :Nat):Int)) rfl rfl rfl (by rw[IntKind.wrap_u8];omega) ?_;refine jB (r:=(((a.toNat ||| 32) - 87 :Nat):Int)) rfl rfl rfl (by rw[IntKind.wrap_u8];omega) ?_;refine a6 ?_;refine dW (r:=16) rfl rfl underlying3 underlying5 rfl ?_;refine (aE) (λo=>aA ?_) λo=>be ?_
       ·refine n3 ak rfl rfl<|b6 ?_
        exact λg d=>⟨_,rfl,d.ext,.inr ⟨.inl<|n5 aa<|.inr aa,rfl⟩⟩
       ·refine ff rfl ((bJ aa))<|aH ?_
        refine dW (r:=16) rfl rfl underlying3 underlying63 rfl ?_;refine mD (r:=(((0 :Nat)*16 :Nat):Int)) rfl rfl rfl (by rw[IntKind.wrap_u64];omega) ?_;refine aU ?_;refine dW (r:=(((a.toNat ||| 32) - 87 :Nat):Int)) rfl rfl underlying5 underlying63 (by rw[IntKind.wrap_u64];omega) ?_;refine jB (r:=(((0 :Nat)*16+((a.toNat ||| 32) - 87):Nat):Int)) rfl rfl rfl (by rw[IntKind.wrap_u64];omega) ?_;refine be ?_;refine bO rfl rfl (bJ aa)<|av ?_;refine bO rfl rfl (bJ aa)<|av ?_;refine bO rfl rfl (bJ aa)<|av ?_;refine hd rfl rfl (bJ aa) rfl<|aA ?_;refine ff rfl ((bJ aa))<|b6 ?_;exact bv (1,0*16+((a.toNat ||| 32) - 87)) (.inr<|.inl ⟨rfl,by rw[sM,ev];exact (AC aa aa aa)⟩) bL b5 λi e=>e
      ·refine n3 ak rfl rfl<|cn ?_
       exact λg d=>⟨_,rfl,d.ext,.inr ⟨.inl<|n5 aa<|.inl aa,rfl⟩⟩
     ·have m:=bm f
      refine be ?_;refine n3 ak rfl rfl<|cn ?_;exact λg d=>⟨_,rfl,d.ext,.inr ⟨.inl<|n5 aa<|.inl aa,rfl⟩⟩
  ·have J:=p.1
   have B:c.toNat ||| 32<256:=ou (n:=8) aa aW
   refine aH ?_;refine e_ rfl ((bI aa))<|aH ?_;refine bE (q:=1) hC rfl rfl rfl bo aa aa<|bb pg rfl rfl (λi e=>J4 e Has.head (k:=1) (a:=c) rfl)<|bP ?_;refine mG ([(1,ad 16),(8,.bool false),(10,.int .u64 1152921504606846976),(11,.int .u64 255),(12,.bool false),(13,.int .u64 ((h:Nat):Int)),(99,.slice (some ⟨cu,0,none⟩) 2 q),(100,ad 2),(101,ad ((1 :Nat):Int)),(15,.int .u8 (c.toNat:Int)),(106,.bool false)]) (ag b [] [iW cu 5 (cI.all [a,c])]) (a7 ?_)<|aU ?_
   ·focus (refine bl 109 rfl (λk=>?_) λk=>?_;have r:=bg k;refine aI ?_;rotate_left;have r:=bm k;refine a7 ?_;all_goals (exact iQ (Sub.cons rfl<|qo rfl rfl rfl rfl rfl rfl rfl rfl rfl rfl) λ_ s=>s))
   ·refine bl 115 rfl (λl=>?_) λl=>?_
    ·have t:=bg l
     refine (aE) (λu=>aA ?_) λu=>ap ?_
     ·refine hB (r:=((c.toNat - 48 :Nat):Int)) rfl rfl rfl (by rw[IntKind.wrap_u8];omega) ?_
      refine a6 ?_;refine dW (r:=16) rfl rfl underlying3 underlying5 rfl<|ap ?_;refine ff rfl ((bJ aa))<|be ?_;refine ff rfl ((bJ aa))<|aH ?_;refine dW (r:=16) rfl rfl underlying3 underlying63 rfl ?_;refine mD (r:=((h*16 :Nat):Int)) rfl rfl rfl (by rw[IntKind.wrap_u64];omega) ?_;refine aU ?_;refine dW (r:=((c.toNat - 48 :Nat):Int)) rfl rfl underlying5 underlying63 (by rw[IntKind.wrap_u64];omega) ?_;refine jB (r:=((h*16+(c.toNat - 48):Nat):Int)) rfl rfl rfl (by rw[IntKind.wrap_u64];omega) ?_;refine be ?_;refine bO rfl rfl (bJ aa)<|av ?_;refine bO rfl rfl (bJ aa)<|av ?_;refine bO rfl rfl (bJ aa)<|av ?_;refine hd rfl rfl (bJ aa) rfl<|aA ?_;refine ff rfl ((bJ aa))<|b6 ?_;exact bv (2,h*16+(c.toNat - 48)) (.inr<|.inr ⟨rfl,_,_,p,(J3 aa),by dsimp only;omega⟩) bL (uK rfl rfl rfl rfl rfl rfl rfl rfl rfl) λi e=>e
     ·refine bF (n4 · c)<|aA ?_
      refine bl 125 rfl (λf=>?_) λf=>?_
      ·have m:=bg f
       refine ap ?_;refine bF (n4 · c) ?_;refine (aE) (λn=>aA ?_) λn=>aA ?_
       ·refine bF (n4 · c) ?_
        refine hB (r:=(((c.toNat ||| 32) - 97 :Nat):Int)) rfl rfl rfl (by rw[IntKind.wrap_u8];omega) ?_;refine jB (r:=(((c.toNat ||| 32) - 87 :Nat):Int)) rfl rfl rfl (by rw[IntKind.wrap_u8];omega) ?_;refine a6 ?_;refine dW (r:=16) rfl rfl underlying3 underlying5 rfl ?_;refine (aE) (λo=>aA ?_) λo=>be ?_
        ·refine n3 ak rfl rfl<|b6 ?_
         exact λg d=>⟨_,rfl,d.ext,.inr ⟨.inr<|n5 aa<|.inr aa,rfl⟩⟩
        ·refine ff rfl ((bJ aa))<|aH ?_
         refine dW (r:=16) rfl rfl underlying3 underlying63 rfl ?_;refine mD (r:=((h*16 :Nat):Int)) rfl rfl rfl (by rw[IntKind.wrap_u64];omega) ?_;refine aU ?_;refine dW (r:=(((c.toNat ||| 32) - 87 :Nat):Int)) rfl rfl underlying5 underlying63 (by rw[IntKind.wrap_u64];omega) ?_;refine jB (r:=((h*16+((c.toNat ||| 32) - 87):Nat):Int)) rfl rfl rfl (by rw[IntKind.wrap_u64];omega) ?_;refine be ?_;refine bO rfl rfl (bJ aa)<|av ?_;refine bO rfl rfl (bJ aa)<|av ?_;refine bO rfl rfl (bJ aa)<|av ?_;refine hd rfl rfl (bJ aa) rfl<|aA ?_;refine ff rfl ((bJ aa))<|b6 ?_;exact bv (2,h*16+((c.toNat ||| 32) - 87)) (.inr<|.inr ⟨rfl,_,_,p,(AC aa aa aa),by dsimp only;omega⟩) bL (uK rfl rfl rfl rfl rfl rfl rfl rfl rfl) λi e=>e
       ·refine n3 ak rfl rfl<|cn ?_
        exact λg d=>⟨_,rfl,d.ext,.inr ⟨.inr<|n5 aa<|.inl aa,rfl⟩⟩
      ·have m:=bm f
       refine be ?_;refine n3 ak rfl rfl<|cn ?_;exact λg d=>⟨_,rfl,d.ext,.inr ⟨.inr<|n5 aa<|.inl aa,rfl⟩⟩
    ·have t:=bm l
     refine be ?_;refine bF (n4 · c)<|aA ?_;refine bl 125 rfl (λf=>?_) λf=>?_
     ·have m:=bg f
      refine ap ?_;refine bF (n4 · c) ?_;refine (aE) (λn=>aA ?_) λn=>aA ?_
      ·refine bF (n4 · c) ?_
       refine hB (r:=(((c.toNat ||| 32) - 97 :Nat):Int)) rfl rfl rfl (by rw[IntKind.wrap_u8];omega) ?_;refine jB (r:=(((c.toNat ||| 32) - 87 :Nat):Int)) rfl rfl rfl (by rw[IntKind.wrap_u8];omega) ?_;refine a6 ?_;refine dW (r:=16) rfl rfl underlying3 underlying5 rfl ?_;refine (aE) (λo=>aA ?_) λo=>be ?_
       ·refine n3 ak rfl rfl<|b6 ?_
        exact λg d=>⟨_,rfl,d.ext,.inr ⟨.inr<|n5 aa<|.inr aa,rfl⟩⟩
       ·refine ff rfl ((bJ aa))<|aH ?_
        refine dW (r:=16) rfl rfl underlying3 underlying63 rfl ?_;refine mD (r:=((h*16 :Nat):Int)) rfl rfl rfl (by rw[IntKind.wrap_u64];omega) ?_;refine aU ?_;refine dW (r:=(((c.toNat ||| 32) - 87 :Nat):Int)) rfl rfl underlying5 underlying63 (by rw[IntKind.wrap_u64];omega) ?_;refine jB (r:=((h*16+((c.toNat ||| 32) - 87):Nat):Int)) rfl rfl rfl (by rw[IntKind.wrap_u64];omega) ?_;refine be ?_;refine bO rfl rfl (bJ aa)<|av ?_;refine bO rfl rfl (bJ aa)<|av ?_;refine bO rfl rfl (bJ aa)<|av ?_;refine hd rfl rfl (bJ aa) rfl<|aA ?_;refine ff rfl ((bJ aa))<|b6 ?_;exact bv (2,h*16+((c.toNat ||| 32) - 87)) (.inr<|.inr ⟨rfl,_,_,p,(AC aa aa aa),by dsimp only;omega⟩) bL (uK rfl rfl rfl rfl rfl rfl rfl rfl rfl) λi e=>e
      ·refine n3 ak rfl rfl<|cn ?_
       exact λg d=>⟨_,rfl,d.ext,.inr ⟨.inr<|n5 aa<|.inl aa,rfl⟩⟩
     ·have m:=bm f
      refine be ?_;refine n3 ak rfl rfl<|cn ?_;exact λg d=>⟨_,rfl,d.ext,.inr ⟨.inr<|n5 aa<|.inl aa,rfl⟩⟩
  ·refine aH ?_
   refine ff rfl ((bJ aa))<|y8 ?_;exact λg d=>⟨_,rfl,d.ext,.inl ⟨z,A,w.1,x.1,w.2,x.2,rfl⟩⟩
section
variable {H:World->Prop}{x:Operand}{cS et:TypeId}
def UR(b:P.isIface cS=true)(c:Nat.blt d n=true)(e:bi l x=some .nilIface)
 (f:aM P n ops Q rest ((d,.bool false)::l) H):aM P n ops Q (⟨some d,.binOp .neq cS x (.const .nilIface) et,ty,pos,bf,none⟩::rest) l H:=
 dB _ c (λg h a=>by
  have i:g (.const .nilIface)= .nilIface:=a _ _ rfl
  have j:=run_neq_nil_nil_at (P:=P) h cS b
  simp[execOp,a x _ e,i,eqGuard_nil_constR,j]) f
def US(b:P.isIface cS=true)(c:Nat.blt d n=true)(e:bi l x=some (.iface i o))
 (f:aM P n ops Q rest ((d,.bool true)::l) H):aM P n ops Q (⟨some d,.binOp .neq cS x (.const .nilIface) et,ty,pos,bf,none⟩::rest) l H:=
 dB _ c (λg h a=>by
  have j:g (.const .nilIface)= .nilIface:=a _ _ rfl
  have k:=run_neq_iface_nil (P:=P) h cS b i o
  have m:eqGuard .neq cS x (.const .nilIface) (.iface i o) .nilIface=pure ():=by rfl
  simp[execOp,a x _ e,j,m,k]) f
end
def UT :Prop:= ∃(x:Nat)(a:TypeId)(b:Value),h= .tuple #[.int .u64 (x:Int),.iface a b]
def UU:Shelf.Ren:=⟨λ| 17=>500 | 21=>506 | 22=>507 | 23=>508 | 24=>509 | 25=>512 | 26=>513 | 27=>100 | 28=>162 | 29=>240 | 30=>327 | 31=>328 | 32=>329 | 33=>330 | 34=>408 | 35=>403 | 36=>409 | 37=>410 | 38=>411 | 39=>468 | 40=>423 | n=>n,λ| 0=>0 | 2=>2 | 3=>3 | 4=>4 | 5=>5 | 9=>9 | 20=>20 | 22=>63 | 24=>193 | 34=>483 | 36=>276 | 37=>48 | 39=>486 | 44=>494 | 47=>197 | 48=>496 | 50=>498 | 52=>384 | 55=>387 | 59=>432 | 60=>118 | 61=>433 | 65=>477 | 66=>465 | 67=>111 | n=>n,λ| 0=>6 | 1=>7 | 2=>0 | 3=>2 | 4=>1 | n=>n⟩
def UV:LaysPu.n17 prog UU where
 mixed:=by kernel_rfl
 f17:=func500.trans<|a_ some ak
 f21:=func506.trans<|a_ some ak
 f22:=func507.trans<|a_ some ak
 f23:=func508.trans<|a_ some ak
 f24:=func509.trans<|a_ some ak
 f25:=func512.trans<|a_ some ak
 f26:=func513.trans<|a_ some ak
 f27:=func100.trans<|a_ some ak
 f28:=func162.trans<|a_ some ak
 f29:=func240.trans<|a_ some ak
 f30:=func327.trans<|a_ some ak
 f31:=func328.trans<|a_ some ak
 f32:=func329.trans<|a_ some ak
 f33:=func330.trans<|a_ some ak
 f34:=func408.trans<|a_ some ak
 f35:=func403.trans<|a_ some ak
 f36:=func409.trans<|a_ some ak
 f37:=func410.trans<|a_ some ak
 f38:=func411.trans<|a_ some ak
 f39:=func468.trans<|a_ some ak
 f40:=func423.trans<|a_ some ak
 t0:=underlying0
 a0:=isAgg0
 z0:=sizeOf0
 v0:=zeroValue0
 i0:=by kernel_rfl
 t2:=underlying2
 a2:=isAgg2
 z2:=sizeOf2
 v2:=zeroValue2
 i2:=by kernel_rfl
 t3:=underlying3
 a3:=isAgg3
 z3:=sizeOf3
 v3:=zeroValue3
 i3:=by kernel_rfl
 t4:=underlying4
 a4:=isAgg4
 z4:=sizeOf4
 v4:=zeroValue4
 i4:=by kernel_rfl
 t5:=underlying5
 a5:=isAgg5
 z5:=sizeOf5
 v5:=zeroValue5
 i5:=by kernel_rfl
 t9:=underlying9
 a9:=isAgg9
 z9:=sizeOf9
 v9:=zeroValue9
 i9:=by kernel_rfl
 t20:=underlying20
 a20:=isAgg20
 z20:=sizeOf20
 v20:=zeroValue20
 i20:=by kernel_rfl
 t22:=underlying63
 a22:=isAgg63
 z22:=sizeOf63
 v22:=zeroValue63
 i22:=by kernel_rfl
 t24:=underlying193
 a24:=isAgg193
 z24:=sizeOf193
 v24:=zeroValue193
 i24:=by kernel_rfl
 t34:=underlying483
 a34:=isAgg483
 z34:=sizeOf483
 v34:=zeroValue483
 i34:=by kernel_rfl
 c34:=by kernel_rfl
 t36:=underlying276
 a36:=isAgg276
 z36:=sizeOf276
 v36:=zeroValue276
 i36:=by kernel_rfl
 t37:=underlying48
 a37:=isAgg48
 z37:=sizeOf48
 v37:=zeroValue48
 i37:=by kernel_rfl
 t39:=underlying486
 a39:=isAgg486
 z39:=sizeOf486
 v39:=zeroValue486
 i39:=by kernel_rfl
 t44:=underlying494
 a44:=isAgg494
 z44:=sizeOf494
 v44:=zeroValue494
 i44:=by kernel_rfl
 t47:=underlying197
 a47:=isAgg197
 z47:=sizeOf197
 v47:=zeroValue197
 i47:=by kernel_rfl
 t48:=underlying496
 a48:=isAgg496
 z48:=sizeOf496
 v48:=zeroValue496
 i48:=by kernel_rfl
 t50:=underlying498
 a50:=isAgg498
 z50:=sizeOf498
 v50:=zeroValue498
 i50:=by kernel_rfl
 t52:=underlying384
 a52:=isAgg384
 z52:=sizeOf384
 v52:=zeroValue384
 i52:=by kernel_rfl
 t55:=underlying387
 a55:=isAgg387
 z55:=sizeOf387
 v55:=zeroValue387
 i55:=by kernel_rfl
 t59:=underlying432
 a59:=isAgg432
 z59:=sizeOf432
 v59:=zeroValue432
 i59:=by kernel_rfl
 t60:=underlying118
 a60:=isAgg118
 z60:=sizeOf118
 v60:=zeroValue118
 i60:=by kernel_rfl
 t61:=underlying433
 a61:=isAgg433
 z61:=sizeOf433
 t65:=underlying477
 a65:=isAgg477
 z65:=sizeOf477
 v65:=zeroValue477
 i65:=by kernel_rfl
 t66:=underlying465
 a66:=isAgg465
 z66:=sizeOf465
 v66:=zeroValue465
 i66:=by kernel_rfl
 t67:=underlying111
 a67:=isAgg111
 z67:=sizeOf111
 v67:=zeroValue111
 i67:=by kernel_rfl
 g0:=by kernel_rfl
 m0:=by kernel_rfl
 g1:=by kernel_rfl
 m1:=by kernel_rfl
 g2:=by kernel_rfl
 m2:=by kernel_rfl
 g3:=by kernel_rfl
 m3:=by kernel_rfl
 g4:=by kernel_rfl
 m4:=by kernel_rfl
def J6 :Prop:= ∃a b,h= .iface a b
def UW(e:qX b)(c a:List UInt8)(x d:Int)(k:a.length<=1000000):
 ay 500 [bU c,bU a,ad x,ad d,.iface 483<|ad 2] b (pi (λf _=>J6 f) b):=by
 obtain⟨⟨g,h,i⟩,_⟩:=e;refine (AnyPu.strconv_toError_syntax UV (bs c) (bs a) x d _ b (by rw[jf];omega) i<|.inr ⟨g,h,rfl⟩).mono ?_;rintro l m ⟨n,rfl,_,_,j⟩;exact⟨_,rfl,Ext.us j,_,_,rfl⟩
def J7(d:Value):Prop:=
 (∃a b:Nat,a<16/\b<16/\dt c=(a:Int)/\dt k=(b:Int)/\d= .tuple #[.int .u64 ((16*a+b:Nat):Int),.nilIface])\/
 ((dt c= -1\/dt k= -1)/\UT d)
def UX(i:qX b)(c d:UInt8):ay 486 [.string (bs [c,d]),ad 16,ad 8] b (pi (λa _=>J7 c d a) b):=by
 refine ba func486 ntmps486 ?_;refine bP ?_;refine oF (R:=λ_ a _=>J5 c d a) (λe _=>UQ e c d) λz j a k l A B f=>?_;have g:Ext [] b j:=k.ext.eC l
 rcases f with ⟨m,n,o,p,q,r,rfl⟩ | ⟨s,rfl⟩
 refine bP ?_;refine UR ak rfl rfl<|cZ ?_;exact λt h=>⟨_,rfl,g.eC h.ext,.inl ⟨m,n,o,p,q,r,rfl⟩⟩
 refine bP ?_;refine US ak rfl rfl<|be ?_;refine oF (R:=λ_ a _=>J6 a) (λe u=>UW e (i.ext<|g.eC u.ext) [80,97,114,115,101,85,105,110,116] [c,d] 16 8<|by show 2<=1000000;decide) λC v a w x D E f=>?_;obtain⟨F,G,rfl⟩:=f;have y:Ext [] b v:=(g.eC w.ext).eC x
 refine aU ?_;exact λt h=>⟨_,rfl,y.eC h.ext,.inr ⟨s,_,_,_,rfl⟩⟩
structure ng where
 kind:Int
 code:Int
 has:Bool
 text:List UInt8
abbrev ng.cells(x:ng):List Value:=[ad x.kind,ad x.code,.bool x.has,bU x.text]
def n7 :ng:=⟨q,0,false,[]⟩
def pQ:ng:=n7 0
def pR :ng:=⟨q,0,false,a.take 256⟩
def io :List UInt8:=if a.head?=some 45 then a.drop 1 else a
def codeOk :Bool:=decide (1<=(io a).length) && decide ((io a).length<=9) && (io a).all qW
def codeF :Int × Bool:=if codeOk a=true then (if a.head?=some 45 then -(xM (io a):Int) else (xM (io a):Int),true) else (0,false)
def kl :Nat × UInt8:=
 if a.take 2=[92,92] then (2,92) else
 if a.take 2=[92,120]/\4<=a.length/\0<=dt (a.getD 2 0)/\0<=dt (a.getD 3 0) then (4,pP (a.getD 2 0)<|a.getD 3 0) else (1,a.headD 0)
def J8 :1<=(kl a).1:=by
 unfold kl;split
 exact Nat.le_succ 1;split
 exact (by decide: (1 :Nat)<=4);exact cC 1
def UY{s:List UInt8}(a:s≠[]): (kl s).1<=s.length:=by
 have b:=sC.2 a
 unfold kl;split
 rename_i c;have:=a_ List.length c
 rw[dR] at this
 simp at this
 omega
 split
 rename_i d;exact d.2.1
 exact b
def jt(a:List UInt8):List UInt8:=if b:a=[] then [] else (kl a).2::jt (a.drop (kl a).1)
termination_by a.length
decreasing_by
 have c:=sC.2 b
 have:=J8 a
 rw[fL];omega
def J9:jt []=[]:=by rw[jt,dif_pos rfl]
def J_(a:e≠[]):jt e=(kl e).2::jt (e.drop (kl e).1):=by rw[jt,dif_neg a]
def D2: ∀(m:Nat)(a:List UInt8),a.length<=m->(jt a).length<=a.length
 | m,a,c=>by
  by_cases b:a=[]
  rw[b,J9];exact cC _
  have d:=sC.2 b
  have e:=J8 a
  cases m with
  | zero=>omega
  | succ m=>
   have:=D2 m (a.drop (kl a).1) (by rw[fL];omega)
   rw[fL] at this
   rw[J_ b,dV];omega
def lj :List UInt8:=(gU 59 a).getD 0 []
def D3 :List UInt8:=(gU 59 a).getD 1 []
def D4 :List UInt8:=(gU 59 a).getD 2 []
def iF :Bool:=decide<|3<=(gU 59 a).length
def lk :List UInt8:=if 59∈a then (a.dropWhile (· ≠59)).drop 1 else []
def vL:List UInt8:=[67,119,100,61]
def tM:List UInt8:=[67,117,114,114,101,110,116,68,105,114,61]
def AD:List UInt8:=[83,101,116,77,97,114,107]
def lT(b:Bool):ng:=
 if a=[65] then n7 1 else if a=[66] then n7 2 else if a=[67] then n7 3 else
 if a=[68] then (if b=true then ⟨4,(codeF m).1,(codeF m).2,[]⟩ else n7 4) else
 if a=[69] then (if C=true/\b=true then pR 5 (jt m) else pQ) else
 if a=[80] then (if C=true/\m.take 4=vL then pR 6 (jt<|m.drop 4) else pQ) else pQ
def vM(rest:List UInt8):ng:=match qY rest with
 | some a=>pR 6 a.2
 | none=>pQ
def qG(rest:List UInt8):ng:=if rest=AD then n7 7 else if rest.take 11=tM then pR 6 (rest.drop 11) else pQ
def nh :ng:=
 if lj a=[49,51,51]\/lj a=[54,51,51] then lT (decide<|lj a=[54,51,51]) (D3 a) (D4 a) (iF a) else
 if lj a=[55] then vM (lk a) else
 if lj a=[49,51,51,55] then qG (lk a) else
 if (lj a=[48]\/lj a=[50])/\59∈a then pR 8 (lk a) else pQ
def UZ : (nh a).text.length<=256:=by
 have g: ∀b,(n7 b).text.length<=256:=λb=>b4 _
 have d: ∀b e,(pR b e).text.length<=256:=λb e=>by
  show (e.take 256).length<=256
  rw[dR];omega
 have f:pQ.text.length<=256:=b4 _
 have l: ∀h i j k,(lT h i j k).text.length<=256:=λh i j k=>by
  unfold lT;repeat' split
  all_goals first | exact g _ | exact d _ _ | exact f
 have m: ∀c,(vM c).text.length<=256:=λc=>by
  unfold vM;split
  ·exact d _ _
  ·exact f
 have n: ∀c,(qG c).text.length<=256:=λc=>by
  unfold qG;repeat' split
  all_goals first | exact g _ | exact d _ _
 unfold nh;repeat' split
 all_goals first | exact l _ _ _ _ | exact m _ | exact n _ | exact d _ _ | exact f
def U0(h:codeOk e=true):Lib.atoiAll e= .ok (codeF e).1:=by
 have m:=h
 unfold codeOk at h
 rw[dK,dK,eQ,eQ,jW] at h
 obtain⟨⟨c,n⟩,d⟩:=h;have o: ∀(l:List UInt8),(∀a∈l,qW a=true)-> ∀b,l.foldl lS b+1<=(b+1)*10 ^ l.length:=by
  intro l;induction l with
  | nil=>intro _ b;simp
  | cons a l p=>
   intro k b;have j:=bg<|k a au
   have:=p (λx q=>k x<|by simp[q])<|lS b a
   rw[ui,dV,Nat.pow_succ];refine ge this ?_;have:lS b a+1<=(b+1)*10:=by unfold lS;omega
   calc (lS b a+1)*10 ^ l.length<=((b+1)*10)*10 ^ l.length:=mB _ this
    _=(b+1)*(10 ^ l.length*10):=by rw[Nat.mul_assoc,rn 10]
 have i:xM (io e)<=999999999:=by
  have r:=o _ d 0
  rw[<-DZ] at r
  have t:10 ^ (io e).length<=10 ^ 9:=sK aW n
  have u:10 ^ 9=1000000000:=by decide
  omega
 have f:Lib.parseMag (io e)= .ok (xM<|io e):=by
  unfold Lib.parseMag;rw[ai λs=>by rw[s] at c;simp at c,JQ _ _ d<|by rw[<-DZ];omega,<-DZ]
 unfold codeF;rw[aB m];unfold io at f i c d ⊢
 cases e with
 | nil=>simp at c
 | cons a l=>
  by_cases g: (a::l).head?=some 45
  rw[aB g] at f i c d ⊢
  have j:a=45:=by simpa using g
  subst j;rw[List.drop_one,List.tail_cons] at f i ⊢
  rw[Lib.atoiAll_minus,f];simp only[Lib.signed];rw[ai aa,aB g];rw[ai g] at f i c d ⊢
  have j:=bg<|d a au
  rw[Lib.atoiAll_plain a l aa aa,f];simp only[Lib.signless];rw[ai aa,ai g]
