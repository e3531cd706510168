/- part 27 of the proof -/
import Derived.Test.YtnfmgboendlmaaaGreatDoorQ24
import Derived.Test.YtnfmgboendlmaaaGreatDoorQ26
import Derived.Laws.RangeAny
import Derived.Shelf.GgClosure.StringsIndexFuncTop
set_option linter.all false
namespace Go.Proofs.YtnfmgboendlmaaaGreatDoor.Mq
open RowKit Tryz
variable {b:World}{S:List Nat}{cs:List Chunk}{P:Program}{n d:Nat}{ops:Array Oper}{Q:cN}{rest:List Oper}{l:Fr}{ty:TypeId}{pos:String}{bf:Array Edge}
variable {j:Chunk}{E:List (List UInt8)}{s:List Chunk}{B:List Nat}{i:List UInt8}{G:Nat}{A:UInt8}{q:World}(y:Int × Bool)(z:UInt8)(c:World)(a:List UInt8)(t:Nat->Prop)(C:Int)(F:List UInt8 × List UInt8)(o:Nat)(r:Option Addr)(u:List UInt8)(h:List (List UInt8))
namespace Os
def mq :Bool:=decide (48<=o) && decide (o<=57)
def C9:LaysGw.n15 prog IR where
 mixed:=by kernel_rfl
 f15:=func414.trans<|a_ some ak
 f20:=func469.trans<|a_ some ak
 t0:=underlying0
 a0:=isAgg0
 z0:=sizeOf0
 v0:=zeroValue0
 i0:=by kernel_rfl
 t3:=underlying3
 a3:=isAgg3
 z3:=sizeOf3
 v3:=zeroValue3
 i3:=by kernel_rfl
 t4:=underlying4
 a4:=isAgg4
 z4:=sizeOf4
 v4:=zeroValue4
 i4:=by kernel_rfl
 t9:=underlying9
 a9:=isAgg9
 z9:=sizeOf9
 v9:=zeroValue9
 i9:=by kernel_rfl
 t21:=underlying21
 a21:=isAgg21
 z21:=sizeOf21
 v21:=zeroValue21
 i21:=by kernel_rfl
 t23:=underlying295
 a23:=isAgg295
 z23:=sizeOf295
 v23:=zeroValue295
 i23:=by kernel_rfl
def Ka(b:List UInt8): ∀(f a:Nat),b.length<=f+a->(Lib.idxFuncFrom (!mq ·) true (bs b) f a<0↔ ∀(d:Nat)(e:UInt8),a<=d->b[d]? = some e->mq e.toNat=true)
 | 0,a,p=>by
  constructor
  intro _ d e k c;have:=(cH.1 c).1
  omega
  intro _;simp[Lib.idxFuncFrom]
 | f+1,a,p=>by
  unfold Lib.idxFuncFrom;rw[jf];by_cases h:a<b.length
  rw[aB h];have l:a<(bs b).size:=by rw[jf];exact h
  have m: (bs b)[a]'l=b[a]:=by simp[bs,ByteArray.getElem_eq_getElem_data]
  by_cases q: (b[a]).toNat<128
  have i:=decode_ascii (bs b) a l (by rw[m];exact q)
  rw[m] at i
  rw[i];dsimp only;by_cases j:mq (b[a]).toNat=true
  rw[ai (by simp[j]),Ka b f (a+1) aa];constructor
  intro g d e k c;by_cases r:d=a
  subst r;rw[bD h] at c
  simp only[ek] at c
  rw[<-c];exact j
  exact g d e aa c;exact λg d e k c=>g d e aa c
  rw[aB (by simp[j])];constructor
  intro s;omega
  exact λg=>absurd (g a b[a] (cC _)<|bD h) j
  have i:=decode_high (bs b) a l (by rw[m];omega)
  have o: ∀n,128<=n->mq n=false:=λn t=>by simp[mq];omega
  rw[aB (by simp[o _ i.1])];constructor
  intro s;omega
  intro g;have:=g a b[a] (cC _)<|bD h
  rw[o _ aa] at this
  cases this
  rw[ai h];constructor
  intro _ d e k c;have:=(cH.1 c).1
  omega
  intro _;omega
theorem U1:dX prog 484:=cL
def U2 :
 ay 484 [.int .i32 (o:Int)] c (λe f=>e= .returned (.bool<|!mq o)/\f=c):=by
 refine calls (n:=9) func484 rfl ntmps484 rfl<|be ?_;refine bl 5 rfl (λa=>?_) λa=>?_;have g:=bg a
 refine aY ?_;intro h b;refine⟨?_,b⟩;rw[show mq o=false by unfold mq;rw[bJ aa];rfl];rfl
 have g:=bm a
 refine be ?_;intro h b;refine⟨?_,b⟩;congr 2
 unfold mq;rw[bI (show 48<=o by omega),Bool.true_and];by_cases d:o<=57
 rw[bI d,bJ aa];rfl
 rw[bJ d,bI aa];rfl
def U3 :
 ay 414 [bU a,.func (.func 484) #[] #[]] c (λd k=> ∃g:Int,d= .returned (ad g)/\decide (0<=g)= !a.all qW/\Ext [] c k):=by
 refine Calls.mono (Any.strings_IndexFunc C9 484 #[] (yE U1 · ·) (!mq ·) (bs a) c λW l _=>?_) λd m b=>⟨_,b.1,?_,Ext.us b.2⟩;refine Calls.mono (U2 W l) λd m b=>⟨b.1,0,?_⟩;rw[b.2];rfl
 have:=Ka a a.length 0 aa
 rw[Lib.idxFunc,jf];have h: (a.all qW=true)↔Lib.idxFuncFrom (!mq ·) true (bs a) a.length 0<0:=by
  rw[this,jW];constructor
  intro b i e _ f;have:=bg<|b e<|cR f
  unfold mq;rw[bI this.1,bI this.2];rfl
  intro b e f;obtain⟨i,n⟩:=sz f;have:=b i e (b4 _) n
  unfold mq at this
  rw[dK,eQ,eQ] at this
  exact bI this
 cases j:a.all qW with
 | true=>
  have:=h.1 j
  rw[bJ aa];rfl
 | false=>
  have: ¬Lib.idxFuncFrom (!mq ·) true (bs a) a.length 0<0:=λb=>by
   have:=h.2 b
   rw[j] at this;cases this
  rw[bI aa];rfl
def U4(e:a.length<=9223372036854775807)(f:u.length<=9223372036854775807):ay 498 [bU a,bU u] c (λg h=>g= .returned (bU<|if a.take u.length=u then a.drop u.length else a)/\Ext [] c h):=by
 refine ba func498 ntmps498 ?_;refine be ?_;refine bF (JT · a u e f) ?_;refine (aE) (λb=>?_) λb=>be ?_;have j:u.length<=a.length:=by have:=a_ List.length b;simp at this;omega
 refine aI ?_;refine sR u.length underlying9 rfl rfl rfl bo aa<|aH ?_;exact λi d=>⟨by rw[aB b],d.ext⟩
 exact λi d=>⟨by rw[ai b],d.ext⟩
def U5(b:a.length<=9223372036854775807)(d:u.length<=9223372036854775807):ay 483 [bU a,bU u] c (λe f=>e= .returned (bU<|if a.take u.length=u then a.drop u.length else a)/\Ext [] c f):=by
 refine ba func483 ntmps483 ?_;refine a6 ?_;refine bF (U4 · a u b d)<|aI ?_;exact λh g=>⟨rfl,g.ext⟩
def U6(s:List UInt8): (if s.take [(45 :UInt8)].length=[45] then s.drop [(45 :UInt8)].length else s)=io s:=by
 unfold io;cases s with
 | nil=>rfl
 | cons a b=>
  show (if [a]=[45] then b else a::b)=if some a=some 45 then b else a::b
  by_cases c:a=45
  rw[aB (by rw[c]),aB<|by rw[c]];rw[ai λd=>c (List.cons.inj d).1,ai λd=>c<|lw d]
def U7 : (io a).length<=a.length:=by
 unfold io;split
 rw[fL];omega
 exact cC _
def U8 :Value:= .tuple #[ad y.1,.bool y.2]
def D5(b: ¬(1<=(io i).length/\(io i).length<=9/\(io i).all qW=true)):codeF i=(0,false):=by
 unfold codeF;rw[ai];intro a;unfold codeOk at a
 rw[dK,dK,eQ,eQ] at a
 exact b ⟨a.1.1,a.1.2,a.2⟩
def U9(q:a.length<=1000000):
 ay 443 [bU a] c (λm g=>m= .returned (U8<|codeF a)/\Ext [] c g):=by
 have y:=U7 a
 refine ba func443 ntmps443 ?_;refine a6 ?_;refine bd (v:=bU<|io a) (hargs:=rfl) (λg _=>by have e:=U5 g a [45] aa aW;rw[U6] at e;exact e) ?_;refine a6 ?_;refine bl 11 rfl (λh=>?_) λh=>?_;have j:=bg h
 refine lb ?_;exact λk b=>⟨by rw[D5 (by rw[j];simp)];rfl,b.ext⟩
 have j:=bm h
 refine aY ?_;refine bl 16 rfl (λi=>?_) λi=>?_;have r:=bg i
 refine fa ?_;exact λk b=>⟨by rw[D5 aa];rfl,b.ext⟩
 have r:=bm i
 refine ap ?_;refine oF (R:=λ_ n _=> ∃d:Int,n=ad d/\decide (0<=d)= !(io a).all qW) (λg _=>(U3 g<|io a).mono λm z e=>by obtain⟨d,h,i,l⟩:=e;exact⟨_,h,l,d,rfl,i⟩) λA s n t u B C v=>?_;obtain⟨d,rfl,f⟩:=v;have o:Ext [] c s:=t.ext.eC u
 refine (aE) (λl=>a6 ?_) λl=>?_;intro k b;rw[bI (show 0<=d by omega)] at f
 exact⟨by rw[D5 λe=>by rw[e.2.2] at f;cases f];rfl,o.eC b.ext⟩;rw[bJ (show ¬0<=d by omega)] at f
 have p:codeOk a=true:=by
  unfold codeOk;have w:1<=(io a).length:=sC.2 j
  rw[bI w,bI<|show (io a).length<=9 by omega];cases x: (io a).all qW with
  | true=>rfl
  | false=>rw[x] at f;cases f
 refine aI ?_;refine bF (v:= .tuple #[ad (codeF a).1,.nilIface]) (Uz · a _ q (U0 p)) ?_;refine fa ?_;exact λk b=>⟨by rw[show codeF a=((codeF a).1,true) by unfold codeF;rw[aB p]];rfl,o.eC b.ext⟩
def Kb(a:UInt8):Value->Prop:=λc=> ∃b:Nat,c= .tuple #[.int .u8 (b:Int),.bool<|decide (0<=dt z) && decide (0<=dt a)]/\(0<=dt z->0<=dt a->(b:Int)=(pP z a).toNat)
def U_:dt 43= -1:=by decide
def Kc:dt 95= -1:=by decide
def Va(s:qX c)(a b:UInt8):ay 445 [.string (bs [a,b])] c (pi (λg _=>Kb a b g) c):=by
 have B:=UInt8.toNat_lt a
 have C:=UInt8.toNat_lt b
 refine ba func445 ntmps445 ?_;refine a6 ?_;refine oF (R:=λ_ g _=>J7 a b g) (λt u=>UX t (s.ext u.ext) a b) λD v g w x E F y=>?_;have o:Ext [] c v:=w.ext.eC x
 rcases y with ⟨j,k,G,H,i,l,rfl⟩ | ⟨p,q,I,J,rfl⟩
 refine aY ?_;have m: (a.toNat:Int)≠43:=λr=>by
  have:a=43:=UInt8.toNat_inj.1 (by have: (43 :UInt8).toNat=43:=rfl;omega)
  rw[this,U_] at i;omega
 have n: (a.toNat:Int)≠95:=λr=>by
  have:a=95:=UInt8.toNat_inj.1 (by have: (95 :UInt8).toNat=95:=rfl;omega)
  rw[this,Kc] at i;omega
 have z: (b.toNat:Int)≠95:=λr=>by
  have:b=95:=UInt8.toNat_inj.1 (by have: (95 :UInt8).toNat=95:=rfl;omega)
  rw[this,Kc] at l;omega
 refine fg [0,1,2,3,4,5,6,7,8,9,10,11,12,13,14,15,16,17,18,19,20] 0 [[]] (λ_=>True) mixed ak (λ_ f=>f.drew) (λ_ h=>dC)<|av ?_;refine aO rfl (λd e=>(dW (r:=((16*j+k:Nat):Int)) rfl rfl underlying63 underlying5 (by rw[IntKind.wrap_u8];omega) aJ)) ?_;refine av ?_;refine aO rfl (λd e=>(UA ak rfl rfl aJ))<|aA ?_;refine aO rfl (λd e=>bO rfl rfl (rfl)<|j2 (q:=0) underlying9 rfl rfl rfl bo (rfl: [a,b][0]? = some a) aJ)<|ap ?_;refine aO rfl (λd e=>bO rfl rfl ((bI m))<|gY rfl rfl aJ) ?_;refine aO rfl (λd e=>bO rfl rfl ((bI m))<|j2 (q:=0) underlying9 rfl rfl rfl bo (rfl: [a,b][0]? = some a) aJ) ?_;refine aO rfl (λd e=>bO rfl rfl ((bI m))<|wC rfl rfl rfl aJ)<|aA ?_;refine aO rfl (λd e=>bO rfl rfl ((bI n))<|gY rfl rfl aJ) ?_;refine aO rfl (λd e=>bO rfl rfl ((bI n))<|j2 (q:=1) underlying9 rfl rfl rfl bo (rfl: [a,b][1]? = some b) aJ) ?_;refine aO rfl (λd e=>bO rfl rfl ((bI n))<|wC rfl rfl rfl aJ)<|aY ?_;intro A f;refine⟨_,rfl,o.eC f.ext,16*j+k,?_,λ_ _=>?_⟩;rw[bI z,i,l,bI<|show (0 :Int)<=(j:Int) by omega,bI<|show (0 :Int)<=(k:Int) by omega];rfl
 unfold pP;rw[i,l,ky];omega
 refine aY ?_;refine fg [0,1,2,3,4,5,6,7,8,9,10,11,12,13,14,15,16,17,18,19,20] 0 [[]] (λ_=>True) mixed ak (λ_ f=>f.drew) (λ_ h=>dC)<|av ?_;refine aO rfl (λd e=>(dW (r:=((q%256 :Nat):Int)) rfl rfl underlying63 underlying5 (by rw[IntKind.wrap_u8];omega) aJ)) ?_;refine av ?_;refine aO rfl (λd e=>(UB ak rfl rfl aJ))<|nI ?_;intro A f;refine⟨_,rfl,o.eC f.ext,q%256,?_,λK L=>?_⟩;have: (decide (0<=dt a) && decide (0<=dt b))=false:=by
  rcases p with h | h
  rw[h];rfl
  rw[h,Bool.and_comm];rfl
 rw[this];rcases p with h | h <;> omega
def AE{b:UInt8}:vK i [A,b]=true↔i.take 2=[A,b]:=by
 unfold vK;rw[dK,eQ,eQ];constructor
 exact λa=>a.2
 intro a;refine⟨?_,a⟩;have:=a_ List.length a
 rw[dR] at this
 simp at this
 show 2<=i.length
 omega
def Vb(a:i.take 2=[92,92]):kl i=(2,92):=by unfold kl;rw[aB a]
def Vc(a:i.take 2=[92,120])(b:4<=i.length)(c:0<=dt (i.getD 2 0))(d:0<=dt (i.getD 3 0)):kl i=(4,pP (i.getD 2 0)<|i.getD 3 0):=by
 unfold kl;rw[ai (by rw[a];decide),aB ⟨a,b,c,d⟩]
def D6{s:List UInt8}(a: ¬s.take 2=[92,92])(b: ¬(s.take 2=[92,120]/\4<=s.length/\0<=dt (s.getD 2 0)/\0<=dt (s.getD 3 0))):kl s=(1,s.headD 0):=by
 unfold kl;rw[ai a,ai b]
def Vd{s:List UInt8}{i:Nat}(b:i<s.length):jt (s.drop i)=(kl<|s.drop i).2::jt (s.drop<|i+(kl<|s.drop i).1):=by
 rw[J_ (by intro a;have:=a_ List.length a;rw[fL] at this;simp at this;omega),ls]
def Kd(l:World)(Q:qX l)(d:List UInt8)(Zo:d.length<=1000000):
 ay 375 [bU d] l (λr f=>r= .returned (bU<|jt d)/\Ext [] l f):=by
 refine ba func375 ntmps375 ?_;refine aH ?_;refine lz 5 1<|bP ?_;refine cd (ι:=Nat × Value × List UInt8) (λt=>[(0,bU d),(3,t.2.1),(4,ad (t.1 :Int))]) (λt=>ag l [] [own 5 1 t.2.1 t.2.2.length (cI.all t.2.2)]) (λt=>t.1<=d.length/\t.2.2.length<=t.1/\jt d=t.2.2++jt (d.drop t.1)) (λt=>d.length - t.1) ?_ ?_;exact λf e=>⟨(0,_,[]),⟨b4 _,cC _,rfl⟩,(ed rfl rfl rfl),e⟩
 rintro⟨i,o,h⟩ ⟨R,S,p⟩;dsimp only at R S p ⊢
 refine (aE) (λT=>?_) λT=>?_;have m:=Vd (s:=d) (i:=i) aa
 have I: (d.drop i).length=d.length - i:=fL
 obtain⟨c,v⟩ : ∃c,d[i]? = some c:=⟨d[i]'aa,bD _⟩;have B: (d.drop i).headD 0=c:=by
  rw[List.headD_eq_head?_getD,List.head?_drop,v];rfl
 have Zp: ∀s,(d.drop i).getD s 0=d.getD (i+s) 0:=λs=>by rw[fY,ja,fY]
 have C: ∀(U:Value)(Zq:World)(J:kl (d.drop i)=(1,c)),jt d=(h++[c])++jt (d.drop<|i+1):=λ_ _ J=>by rw[p,m,J];simp
 refine aY ?_;refine sR i underlying9 rfl rfl rfl bo aa<|aU ?_;refine lA (λf _=>J1 f (d.drop i) [92,92])<|aA ?_;refine cD rfl (λw=>?_) λw=>?_;have j:=AE.1 w
 have g:=Vb j
 have K:=UY (s:=d.drop i) (by intro r;rw[r] at j;cases j)
 rw[g] at m K
 dsimp only at m K
 have V:d[i+1]? = some 92:=by
  have:=a_ (λW=>W[1]?) j
  rw[iu,aB aW,ja] at this
  exact this
 refine be ?_;refine j2 (q:=i+1) underlying9 rfl rfl rfl aa V<|av ?_;intro D E F;refine hW hC rfl rfl rfl bx (λ_=>by exact cJ) rfl (jE rfl) (by simp only[maxLen];omega) aa λn G=>?_;refine a6 ?_;refine bv (i+2,n,h++[92]) ⟨by dsimp only;omega,by dsimp only;simp;omega,by rw[p,m];simp⟩ bL (ed rfl rfl rfl) λf e=>?_;dsimp only;rw[b1.iP cI,b3];exact e;have j: ¬(d.drop i).take 2=[92,92]:=λr=>by rw[AE.2 r] at w;cases w
 refine ap ?_;refine lA (λf _=>J1 f (d.drop i) [92,120])<|av ?_;refine bl 23 rfl (λy=>?_) λy=>?_;have X:=AE.1 y
 refine (aE) (λz=>?_) λz=>?_;obtain⟨x,A,a,b,t,H⟩ : ∃x A a b t,d.drop i=x::A::a::b::t:=by
  match Y:d.drop i with
  | x::A::a::b::t=>exact⟨x,A,a,b,t,rfl⟩
  | [] | [_] | [_,_] | [_,_,_]=>rw[Y] at I z;simp at I z
 have Z: ((d.drop i).take 4).drop 2=[a,b]:=by rw[H];rfl
 have Za: (d.drop i).getD 2 0=a:=by rw[H];rfl
 have Zb: (d.drop i).getD 3 0=b:=by rw[H];rfl
 have L:=Vc X aa
 have M:=D6 (s:=d.drop i) j
 rw[Za,Zb] at L M
 refine ap ?_;refine NM 2 4 underlying9 rfl rfl rfl rfl bo bo aa aa ?_;rw[Z];refine oF (R:=λ_ o _=>Kb a b o) (λf e=>Va f (Q.ext e.ext) a b) λZr Zs U N Zc Zt Zu Zd=>?_;obtain⟨Zv,rfl,Ze⟩:=Zd;have O:=N.ext.eC Zc
 have P:=N.eU
 refine b6 ?_;refine cD rfl (λk=>?_) λk=>?_;rw[dK,eQ,eQ] at k
 have Zf:=Ze k.1 k.2
 have g:=L k.1 k.2
 rw[g] at m
 dsimp only at m
 refine aI ?_;intro Zw Zx Zy;refine hW hC rfl rfl rfl bx (λ_=>by exact cJ) rfl (jE rfl) (by simp only[maxLen];omega) aa λZg Zz=>?_;refine fT ?_;refine bv (i+4,Zg,h++[pP a b]) ⟨by dsimp only;omega,by dsimp only;simp;omega,by rw[p,m];simp⟩ bL (ed rfl rfl rfl) λf e=>?_;dsimp only;rw[b1.iP cI,b3];rw[Zf] at e
 exact e.Bs O P;have g:=M (λq=>by rw[bI q.2.2.1,bI q.2.2.2] at k;cases k)
 rw[B] at g
 have u:=C o l g
 refine aH ?_;refine j2 (q:=i) underlying9 rfl rfl rfl aa v<|av ?_;intro D E F;refine hW hC rfl rfl rfl bx (λ_=>by exact cJ) rfl (jE rfl) (by simp only[maxLen];omega) aa λn G=>?_;refine a6 ?_;refine bv (i+1,n,h++[c]) ⟨by dsimp only;omega,by dsimp only;simp;omega,u⟩ bL (ed rfl rfl rfl) λf e=>?_;dsimp only;rw[b1.iP cI,b3];exact e.Bs O P;have g:=D6 (s:=d.drop i) j λq=>z (by have:=q.2.1;omega)
 rw[B] at g
 have u:=C o l g
 refine aH ?_;refine j2 (q:=i) underlying9 rfl rfl rfl aa v<|av ?_;intro D E F;refine hW hC rfl rfl rfl bx (λ_=>by exact cJ) rfl (jE rfl) (by simp only[maxLen];omega) aa λn G=>?_;refine a6 ?_;refine bv (i+1,n,h++[c]) ⟨by dsimp only;omega,by dsimp only;simp;omega,u⟩ bL (ed rfl rfl rfl) λf e=>?_;dsimp only;rw[b1.iP cI,b3];exact e;have g:=D6 (s:=d.drop i) j (λq=>by rw[AE.2 q.1] at y;cases y)
 rw[B] at g
 have u:=C o l g
 refine cn ?_;refine j2 (q:=i) underlying9 rfl rfl rfl aa v<|av ?_;intro D E F;refine hW hC rfl rfl rfl bx (λ_=>by exact cJ) rfl (jE rfl) (by simp only[maxLen];omega) aa λn G=>?_;refine a6 ?_;refine bv (i+1,n,h++[c]) ⟨by dsimp only;omega,by dsimp only;simp;omega,u⟩ bL (ed rfl rfl rfl) λf e=>?_;dsimp only;rw[b1.iP cI,b3];exact e;have Zh:i=d.length:=by omega
 rw[Zh,uh,J9,eZ] at p
 refine jd (v:=o) Has.head λZi Zj Zk ZA ZB ZC ZD=>?_;subst Zk;refine aY ?_;refine kF (s:=h) (F:=λs=>(Value.slice Zi h.length Zj).ownBlock=some s) underlying48 underlying5 underlying9 rfl rfl (λf e=>?_) ?_;obtain⟨ZE,ZF,Zl,Zm⟩:=Rd.ho (E:=cI) (e.has Has.head) rfl;cases Zl
 exact Zm;refine aI ?_;exact λZG Zn=>⟨by rw[p],Zn.ext⟩
def ag.Ke{a:List Chunk}{w:World}(b:ag q B s w)(c:s=a):ag q B a w:=c▸b
def Ve(f:a.length<=1000000):
 ay 379 [bU a] c (λb d=>b= .returned (bU<|a.take 256)/\Ext [] c d):=by
 refine ba func379 ntmps379 ?_;refine bP ?_;refine sS (min a.length 256) underlying9 rfl rfl rfl aa aa<|aI ?_;intro g e;refine⟨?_,e.ext⟩;have b:a.take (min a.length 256)=a.take 256:=by
  rcases Nat.le_total a.length 256 with h | h
  rw[jZ h,eT<|cC _,eT h];rw[Nat.min_eq_right h]
 rw[b]
def vN(a:List UInt8)(b:a.length<=1000000):
 ay 301 [ad C,bU a] c (λd e=>d= .returned (.agg (pR C a).cells.toArray)/\Ext [] c e):=by
 refine ba func301 ntmps301 ?_;refine ap ?_;intro g h i;refine aH ?_;refine bF (Ve · a b)<|aH ?_;exact λj f=>⟨rfl,f.ext⟩
def D7(a:Nat):Value:= .tuple #[bU (h.getD a []),.bool<|decide<|a<h.length]
def AF(e f:Nat)(b:List (List UInt8))(g:Rd lI c t r e f b)(a:Nat):
 ay 298 [.slice r e f,ad (a:Int)] c (λj h=>j= .returned (D7 b a)/\Ext [] c h):=by
 have o:=g.len
 refine ba func298 ntmps298 ?_;refine (aE) (λk=>a6 ?_) λk=>?_;exact λl d=>⟨by rw[D7,bJ aa,fY,hK aa];rfl,d.ext⟩
 obtain⟨x,i⟩ : ∃x,b[a]? = some x:=⟨b[a]'aa,bD _⟩;obtain⟨p,q,_,m⟩:=g.at_ i;refine aH ?_;refine bE (q:=a) N8 rfl rfl rfl bR aa aa<|bb oA rfl rfl (λh n=>n.ch (m 0 _ rfl) au)<|aH ?_;exact λl d=>⟨by rw[D7,bI aa,fY,i];rfl,d.ext⟩
def Kf(e:World)(f:Value)(g:World):Prop:= ∃b c d,f= .agg #[.slice b c d,bU<|lk a,.bool<|decide<|59∈a]/\Rd lI g (λh=>e.heap.size<=h) b c d (gU 59 a)
def Vf : (lk a).length<=a.length:=by
 unfold lk;split
 rw[fL];have:=(List.dropWhile_sublist (λb:UInt8=>decide<|b≠59) (l:=a)).length_le
 omega
 exact b4 _
def Vg : ∃c,oV a 59= .tuple #[.string c,bU<|lk a,.bool<|decide<|59∈a]:=by
 unfold oV lk;by_cases b:59∈a
 rw[aB b,aB b,bI b];exact⟨_,rfl⟩
 rw[ai b,ai b,bJ b];exact⟨_,rfl⟩
def Vh(j:tL c)(a:List UInt8)(e:a.length<=1000000):
 ay 297 [bU a] c (pi (Kf a c) c):=by
 obtain⟨k,l⟩:=Vg a;refine ba func297 ntmps297 ?_;refine ap ?_;intro x y z;refine aI ?_;refine bd (v:= .tuple #[.string k,bU<|lk a,.bool<|decide<|59∈a]) (λb _=>by have f:=IQ b a 59 e;rw[l] at f;exact f) ?_;refine b6 ?_;refine yN (λb m=>Uu b (j.ext m.ext) a 59 e) λA n o p q d r B s t=>?_;have u:Ext [] c n:=d.ext.eC r
 have v:=d.eU
 refine aY ?_;exact λC g=>⟨_,rfl,u.trans g.ext v,o,p,q,rfl,(t.ext g.ext λh i w=>by have:=s h w;omega).d8 λh i=>ge d.ext.size i⟩
def vO :ng:=if 2<h.length then ⟨4,(codeF<|h.getD 2 []).1,(codeF<|h.getD 2 []).2,[]⟩ else n7 4
def D8{m:Nat}(c: ∀a∈E,a.length<=m)(b:Nat): (E.getD b []).length<=m:=by
 rw[fY];cases d:E[b]? with
 | none=>exact b4 _
 | some a=>exact c a<|cR d
def Vi(b d:Nat)(a:List (List UInt8))(o:Rd lI c t r b d a)(e:ByteArray)(f:Bool)(p: ∀g∈a,g.length<=1000000):
 ay 374 [.agg #[.slice r b d,.string e,.bool f]] c (λq h=>q= .returned (.agg (vO a).cells.toArray)/\Ext [] c h):=by
 refine ba func374 ntmps374 ?_;refine ap ?_;intro l v w;refine av ?_;intro m x y;refine aH ?_;intro n z A;refine aI ?_;refine dh (H':=ag c [] [aG n (n7 4).cells 228,aG m (n7 0).cells 228,aG l [.slice r b d,.string e,.bool f] 356]) (ap ?_) (Sub.refl _) λg i=>ag.Ke i ak;refine bd (λh s=>AF h t r b d a (o.ext s.ext au) 2) ?_;refine (aE) (λj=>aA ?_) λj=>be ?_;refine bF (U9 · (a.getD 2 []) (D8 p 2))<|be ?_;refine dh (H':=ag c [] [aG n (vO a).cells 228,aG m (n7 0).cells 228,aG l [.slice r b d,.string e,.bool f] 356]) ?_ (Sub.refl _) λg i=>ag.Ke i (by rw[vO,aB j];rfl);refine aU ?_;exact λu k=>⟨rfl,k.ext⟩
 exact λu k=>⟨by rw[vO,ai j];rfl,k.ext⟩
def Vj(y:qX c)(t:Nat->Prop)(p:Option Addr)(q r:Nat)(b:List (List UInt8))(v:Rd lI c t p q r b)(z:ByteArray)(A n:Bool)(w: ∀C∈b,C.length<=1000000):
 ay 299 [.agg #[.slice p q r,.string z,.bool A],.bool n] c (λD f=>D= .returned (.agg (lT n (b.getD 1 []) (b.getD 2 [])<|decide<|2<b.length).cells.toArray)/\Ext [] c f):=by
 have G:=D8 w 1
 have E:=D8 w 2
 have F:vO b=if decide (2<b.length)=true then ⟨4,(codeF<|b.getD 2 []).1,(codeF<|b.getD 2 []).2,[]⟩ else n7 4:=by
  unfold vO;by_cases e:2<b.length
  rw[aB e,aB<|bI e];rw[ai e,ai<|by simpa using e]
 have H:=D2 _ (b.getD 2 [])<|cC _
 refine ba func299 ntmps299 ?_;refine ap ?_;intro I J K;refine av ?_;intro L M N;refine aH ?_;refine bd (λf h=>AF f t p q r b (v.ext h.ext au) 1)<|bP ?_;refine bd (λf h=>AF f t p q r b (v.ext h.ext au) 2)<|a6 ?_;generalize b.getD 1 []=B at *
 generalize O:b.getD 2 []=d at *
 refine (aE) (λi=>be ?_) λi=>?_;exact λg a=>⟨by rw[lT,aB i];rfl,a.ext⟩
 refine (aE) (λk=>be ?_) λk=>?_;exact λg a=>⟨by rw[lT,ai i,aB k];rfl,a.ext⟩
 refine (aE) (λo=>be ?_) λo=>?_;exact λg a=>⟨by rw[lT,ai i,ai k,aB o];rfl,a.ext⟩
 refine (aE) (λs=>ap ?_) λs=>?_;refine bd (λf h=>Vi f t p q r b (v.ext h.ext au) z A w)<|aU ?_;intro g a;refine⟨?_,a.ext⟩;rw[lT,ai i,ai k,ai o,aB s,<-F];rfl
 refine (aE) (λu=>?_) λu=>?_;have l:lT n B d (decide<|2<b.length)=if n=true/\decide (2<b.length)=true then pR 5 (jt d) else pQ:=by rw[lT,ai i,ai k,ai o,ai s,aB u]
 refine a7 ?_;refine bl 40 rfl (λm=>?_) λm=>fa ?_;refine (aE) (λj=>ap ?_) λj=>bP ?_;refine bd (λf h=>Kd f (y.ext h.ext) d E)<|bF (vN · 5 (jt d) aa) ?_;refine aU ?_;exact λg a=>⟨by rw[l,aB ⟨m,bI j⟩];rfl,a.ext⟩
 exact λg a=>⟨by rw[l,ai λe=>j<|bg e.2];rfl,a.ext⟩
 exact λg a=>⟨by rw[l,ai λe=>by rw[m] at e;cases e.1];rfl,a.ext⟩
 refine (aE) (λx=>?_) λx=>bP ?_;have l:lT n B d (decide<|2<b.length)=if n=true/\d.take 4=vL then pR 6 (jt<|d.drop 4) else pQ:=by rw[lT,ai i,ai k,ai o,ai s,ai u,aB x]
 refine ap ?_;refine bF (hargs:=rfl) (JU · d vL aa aW)<|bP ?_;refine bl 54 rfl (λm=>?_) λm=>fa ?_;refine (aE) (λj=>?_) λj=>bP ?_;have P: (d.drop 4).length<=d.length:=by rw[fL];omega
 have Q:=D2 _ (d.drop 4)<|cC _
 rw[show (if d.take vL.length=vL then d.drop vL.length else d)=d.drop 4 from aB j];refine ap ?_;refine bd (λf h=>Kd f (y.ext h.ext) (d.drop 4) aa)<|bF (vN · 6 (jt<|d.drop 4) aa) ?_;refine aU ?_;exact λg a=>⟨by rw[l,aB ⟨m,j⟩];rfl,a.ext⟩
 exact λg a=>⟨by rw[l,ai λe=>j e.2];rfl,a.ext⟩
 exact λg a=>⟨by rw[l,ai λe=>by rw[m] at e;cases e.1];rfl,a.ext⟩
 exact λg a=>⟨by rw[lT,ai i,ai k,ai o,ai s,ai u,ai x];rfl,a.ext⟩
def Vk(b:qY a=some F):F.2.length<=a.length:=by
 unfold qY at b
 split at b
 split at b
 cases b
 cases b
 have:=Aw _ ((a.drop 7).drop (Lib.indexByte (a.drop 7) 47).toNat)<|cC _
 rw[fL,fL] at this
 dsimp only;omega
 cases b
structure xR (w:World):Prop where
 l:fJ w
 e:qX w
 m:tL w
def xR.ext{c:World}(a:xR q)(b:Ext [] q c):xR c:=⟨a.l.ext b,a.e.ext b,a.m.ext b⟩
set_option maxHeartbeats 1000000 in
def Kg(H:xR c)(a:List UInt8)(L:a.length<=1000000):
 ay 197 [bU a] c (λz b=>z= .returned (.agg (nh a).cells.toArray)/\Ext [] c b):=by
 have M: ∀A∈gU 59 a,A.length<=1000000:=λA N=>by have:=(JV 59 a A N).2;omega
 have Z:=Vf a
 have f:nh a=if lj a=[49,51,51]\/lj a=[54,51,51] then lT (decide<|lj a=[54,51,51]) (D3 a) (D4 a) (iF a) else if lj a=[55] then vM (lk a) else if lj a=[49,51,51,55] then qG (lk a) else if (lj a=[48]\/lj a=[50])/\59∈a then pR 8 (lk a) else pQ:=rfl
 have o:=λb=>UN b (lk a) aa
 have O:=Vk<|lk a
 refine ba func197 ntmps197 ?_;refine ap ?_;intro B Za Zb;refine aI ?_;refine oF (R:=λP=>Kf a P) (λb k=>Vh b (H.ext k.ext).m a L) λQ p Zc I R Zd S T=>?_;obtain⟨q,r,s,rfl,U⟩:=T;have V:Ext [] c p:=I.ext.eC R
 have W:=I.eU
 have i: ∀b,Ext (aK [aG B [z0,z0,.bool false,.string ByteArray.empty] 228]) p b->Ext [] c b:=λb h=>V.trans h W
 have J: ∀b,Ext (aK [aG B [z0,z0,.bool false,.string ByteArray.empty] 228]) p b->Rd lI b (λC=>Q.heap.size<=C) q r s (gU 59 a):=λb h=>U.ext h (λC Ze X=>by have:=S C X;omega)
 refine av ?_;intro Zf Zg Zh;refine aU ?_;refine bd (λb k=>AF b _ q r s _ (J b k.ext) 0) ?_;refine a6 ?_;rw[show (gU 59 a).getD 0 []=lj a from rfl];have K: ∀t b,Ext (aK [aG B [z0,z0,.bool false,.string ByteArray.empty] 228]) p b->ay 299 [.agg #[.slice q r s,bU<|lk a,.bool<|decide<|59∈a],.bool t] b (λz Y=>z= .returned (.agg (lT t (D3 a) (D4 a)<|iF a).cells.toArray)/\Ext [] b Y):=λt b h=>Vj b (H.ext<|i b h).e _ q r s _ (J b h) _ _ t M
 generalize Zi:lj a=one at *
 generalize Zj:lk a=g at *
 refine (aE) (λu=>aA ?_) λu=>?_;refine e_ rfl ((bI u))<|aI ?_;refine bd (λb k=>K (decide<|one=[54,51,51]) b k.ext)<|aU ?_;exact λj d=>⟨by rw[f,aB<|.inl u];rfl,i _ d.ext⟩
 refine (aE) (λD=>aI ?_) λD=>?_;refine bd (λb k=>K (decide<|one=[54,51,51]) b k.ext)<|aU ?_;exact λj d=>⟨by rw[f,aB<|.inr D];rfl,i _ d.ext⟩
 rw[ai λh=>h.elim u D] at f
 refine (aE) (λE=>?_) λE=>?_;rw[aB E] at f
 cases n:qY g with
 | some v=>
  have Zk:=O v n
  rw[show qZ g= .tuple #[bU v.1,bU v.2,z0] by rw[qZ,n]] at o
  refine a7 ?_;refine bF (o ·) ?_;refine fT ?_;refine bF (vN · 6 v.2 aa) ?_;refine aU ?_;exact λj d=>⟨by rw[f,vM,n];rfl,i _ d.ext⟩
 | none=>
  rw[show qZ g= .tuple #[.string (bs []),.string<|bs [],ad 4] by rw[qZ,n]] at o
  refine a7 ?_;refine bF (o ·) ?_;refine wP ?_;exact λj d=>⟨by rw[f,vM,n];rfl,i _ d.ext⟩
 rw[ai E] at f
 refine (aE) (λF=>?_) λF=>?_;rw[aB F] at f
 refine (aE) (λw=>bP ?_) λw=>aH ?_;exact λj d=>⟨by rw[f,qG,aB<|show g=AD from w];rfl,i _ d.ext⟩
 refine bF (hargs:=rfl) (JU · g tM aa aW) ?_;refine (aE) (λx=>?_) λx=>bP ?_;rw[show (if g.take tM.length=tM then g.drop tM.length else g)=g.drop 11 from aB x];refine ap ?_;refine bF (vN · 6 (g.drop 11) (by rw[fL];omega)) ?_;refine aU ?_;exact λj d=>⟨by rw[f,qG,ai<|show ¬g=AD from w,aB<|show g.take 11=tM from x];rfl,i _ d.ext⟩
 exact λj d=>⟨by rw[f,qG,ai<|show ¬g=AD from w,ai<|show ¬g.take 11=tM from x];rfl,i _ d.ext⟩
 rw[ai F] at f
 refine (aE) (λy=>aA ?_) λy=>?_;refine e_ rfl ((bI y)) ?_;refine (aE) (λl=>a7 ?_) λl=>bP ?_;refine bF (vN · 8 g aa)<|aU ?_;exact λj d=>⟨by rw[f,aB ⟨.inl y,l⟩];rfl,i _ d.ext⟩
 exact λj d=>⟨by rw[f,ai λh=>l h.2];rfl,i _ d.ext⟩
 refine (aE) (λG=>?_) λG=>bP ?_;refine (aE) (λl=>a7 ?_) λl=>bP ?_;refine bF (vN · 8 g aa)<|aU ?_;exact λj d=>⟨by rw[f,aB ⟨.inr G,l⟩];rfl,i _ d.ext⟩
 exact λj d=>⟨by rw[f,ai λh=>l h.2];rfl,i _ d.ext⟩
 exact λj d=>⟨by rw[f,ai λh=>h.1.elim y G];rfl,i _ d.ext⟩
end Os
structure vP where
 W:World
structure tN [Inhabited vP] (w:World):Prop where
 ao: ∀k,k<8->w.heap[k]? = (default:vP).W.heap[k]?
 AG:dw.oQ w
 it:fJ w
 os:Os.xR w
def AH{w:World}(a: ∀k,0<=k->k<8->q.heap[k]? = w.heap[k]?){g:Nat}(b:g<8):q.cell? ⟨g,G,none⟩=w.cell? ⟨g,G,none⟩:=World.cell?_of_block (w:=w)<|a g (b4 _) b
def Kh{w:World}(b: ∀k,0<=k->k<8->q.heap[k]? = w.heap[k]?)(a:fJ w):fJ q:=by
 have c:prog.globalNamed "internal/strconv.uint64pow10" = some 0:=by kernel_rfl
 unfold fJ Lib.TabIs World.var? at *
 rw[c] at a ⊢
 simp only[sN] at a ⊢
 rw[b 0 aW aW];exact a
variable [Inhabited vP]
def tN.loc(w d:World)(a: ∀k,0<=k->k<8->d.heap[k]? = w.heap[k]?)(b:tN w):tN d:=by
 refine⟨λk f=>(a k (b4 _) f).trans<|b.ao k f,λg h=>?_,Kh a b.it,Kh a b.os.l,?_,?_⟩;rw[AH a aW];exact b.AG g h
 obtain⟨⟨i,p,c⟩,j,n,o⟩:=b.os.e;exact⟨⟨i,p,by rw[AH a aW];exact c⟩,j,n,by rw[AH a aW];exact o⟩;obtain⟨m,c⟩:=b.os.m;exact⟨m,by rw[AH a aW];exact c⟩
def eS:Chunk:=tE 0 8 tN tN.loc
def xS(X:Chunk):Prop:= ∀w,X.pred w->tN w
section
variable {w:World}
def ag.fk(a:ag b S cs w){l:List Chunk}(c:Has cs (aZ l))(d:Has l j):j.pred w:=a.Tb c d
def ag.xT{l:List Chunk}{X:Chunk}(g:ag b S cs w)(h:aP cs [aZ l,X] s): ∀a,Ext (aK l) w a->X.pred a:=λa i=>by
 have c:=g.perm h.perm
 have d:=c.all X au
 have e:=c.nodup
 refine X.loc w a (λk f=>i.block k (X.low w d k f) λj=>?_) d;have m:aK (aZ l::X::s)=aK l++(X.cT++aK s):=by simp[aK,aZ]
 rw[show [aZ l,X]++s=aZ l::X::s from rfl,m] at e
 exact (gO.1 e).2.2 k j k (p7 _ f) rfl
end
structure mr (T bp:bM):Prop where
 use:bp.use=T.use
 am:bp.am.g=T.am.g
 br:bp.br.g=T.br.g
section
variable {args:List Operand}{di:Array TypeId}{f:FuncId}{vs:List Value}{v:Value}{g par k m p:Nat}{R:Int}{T:bM}{X:Chunk}
def gL(o:cK g R m T)(q:p=T.am.g)
 (r: ∀w,bc w (a8 T.am)->(∀i,Ext (aK<|a8 T.am) w i->X.pred i)->Calls P f (ptr T.am.g::vs).toArray w (fj k T.am v w))
 (s: ∀a:bM,cK g R (m+k) a->p=a.am.g->mr T a->aM P n ops Q rest ((d,v)::l) (ag b S<|b0 g par X a)) (hargs:db l args=some (ptr p::vs):=by exact rfl) (t:Nat.blt d n=true:=by exact rfl) (u:dX P f:=by exact cL):
 aM P n ops Q (⟨some d,.call ⟨.value<|.func f,args.toArray,di⟩,ty,pos,bf,none⟩::rest) l (ag b S<|b0 g par X T):=by
 subst q;refine ml (l0:=a8 T.am) (l':=a8) (cs1:=λc=>[eu g par T,aZ<|a8 c,aZ<|a8 T.br,T.buf.aD,T.aQ.aD,X]) (λc=>bC.tail bC.head) (hd:=t) (hcb:=u) (hargs:=hargs) (λw j=>r w (j.mj<|Has.tail Has.head)<|j.xT ah) λc e=>?_;have h:=s { T with am:=c } (o.tG e) e.g.symm ⟨rfl,e.g,rfl⟩
 simp only[b0] at h
 rw[tH e.g] at h
 exact h
def Vl(o:cK g R m T)
 (p: ∀w,bc w (a8 T.am)->(∀i,Ext (aK<|a8 T.am) w i->X.pred i)->Calls P f vs.toArray w (fj k T.am v w))
 (q: ∀c:bM,cK g R (m+k) c->mr T c->aM P n ops Q rest ((d,v)::l) (ag b S<|b0 g par X c)) (hargs:db l args=some vs:=by exact rfl) (r:Nat.blt d n=true:=by exact rfl) (s:dX P f:=by exact cL):
 aM P n ops Q (⟨some d,.call ⟨.value<|.func f,args.toArray,di⟩,ty,pos,bf,none⟩::rest) l (ag b S<|b0 g par X T):=by
 refine ml (l0:=a8 T.am) (l':=a8) (cs1:=λa=>[eu g par T,aZ<|a8 a,aZ<|a8 T.br,T.buf.aD,T.aQ.aD,X]) (λa=>bC.tail bC.head) (hd:=r) (hcb:=s) (hargs:=hargs) (λw j=>p w (j.mj<|Has.tail Has.head)<|j.xT ah) λa e=>?_;have h:=q { T with am:=a } (o.tG e) ⟨rfl,e.g,rfl⟩
 simp only[b0] at h
 rw[tH e.g] at h
 exact h
def Ki(p:cK g R m T)
 (q: ∀w,bc w (a8 T.am)->(∀i,Ext (aK<|a8 T.am) w i->X.pred i)->Calls P f vs.toArray w (fj k T.am v w))
 (r: ∀c:bM,cK g R (m+k) c->mr T c->aM P n ops Q rest ((d,v)::l) (ag b S<|j::b0 g par X c)) (hargs:db l args=some vs:=by exact rfl) (s:Nat.blt d n=true:=by exact rfl) (t:dX P f:=by exact cL):
 aM P n ops Q (⟨some d,.call ⟨.value<|.func f,args.toArray,di⟩,ty,pos,bf,none⟩::rest) l (ag b S<|j::b0 g par X T):=by
 refine ml (l0:=a8 T.am) (l':=a8) (cs1:=λa=>j::[eu g par T,aZ<|a8 a,aZ<|a8 T.br,T.buf.aD,T.aQ.aD,X]) (λa=>bC.tail<|bC.tail bC.head) (hd:=s) (hcb:=t) (hargs:=hargs) (λw o=>q w (o.mj<|Has.tail<|Has.tail Has.head)<|o.xT ah) λa e=>?_;have h:=r { T with am:=a } (p.tG e) ⟨rfl,e.g,rfl⟩
 simp only[b0] at h
 rw[tH e.g] at h
 exact h
def xU(o:cK g R m T)(q:p=T.br.g)
 (r: ∀w,bc w (a8 T.br)->(∀i,Ext (aK<|a8 T.br) w i->X.pred i)->Calls P f (ptr T.br.g::vs).toArray w (fj k T.br v w))
 (s: ∀a:bM,cK g R (m+k) a->p=a.br.g->mr T a->aM P n ops Q rest ((d,v)::l) (ag b S<|b0 g par X a)) (hargs:db l args=some (ptr p::vs):=by exact rfl) (t:Nat.blt d n=true:=by exact rfl) (u:dX P f:=by exact cL):
 aM P n ops Q (⟨some d,.call ⟨.value<|.func f,args.toArray,di⟩,ty,pos,bf,none⟩::rest) l (ag b S<|b0 g par X T):=by
 subst q;refine ml (l0:=a8 T.br) (l':=a8) (cs1:=λc=>[eu g par T,aZ<|a8 T.am,aZ<|a8 c,T.buf.aD,T.aQ.aD,X]) (λc=>bC.tail<|bC.tail bC.head) (hd:=t) (hcb:=u) (hargs:=hargs) (λw j=>r w (j.mj<|Has.tail<|Has.tail Has.head)<|j.xT ah) λc e=>?_;have h:=s { T with br:=c } (o.TV e) e.g.symm ⟨rfl,rfl,e.g⟩
 simp only[b0] at h
 rw[TW e.g] at h
 exact h
def ht
 (c: ∀w,bc w (b0 g par X T)->Calls P f vs.toArray w (js g par X R m v T w))
 (e: ∀a:bM,cK g R m a->aM P n ops Q rest ((d,v)::l) (ag b S<|b0 g par X a)) (hargs:db l args=some vs:=by exact rfl) (h:Nat.blt d n=true:=by exact rfl) (i:dX P f:=by exact cL):
 aM P n ops Q (⟨some d,.call ⟨.value<|.func f,args.toArray,di⟩,ty,pos,bf,none⟩::rest) l (ag b S<|b0 g par X T):=
 bK (l0:=b0 g par X T) ah (hd:=h) (hcb:=i) (hargs:=hargs) (λw j=>c w<|j.cb ah) e
def fX(q:cK g R m T)(r:p=T.am.g)
 (s: ∀w,bc w (a8 T.am)->(∀i,Ext (aK<|a8 T.am) w i->X.pred i)->Calls P f (ptr T.am.g::vs).toArray w (fj k T.am v w))
 (t: ∀a:bM,cK g R (m+k) a->p=a.am.g->mr T a->aM P n ops Q rest ((d,v)::l) (ag b S<|j::b0 g par X a)) (hargs:db l args=some (ptr p::vs):=by exact rfl) (u:Nat.blt d n=true:=by exact rfl) (x:dX P f:=by exact cL):
 aM P n ops Q (⟨some d,.call ⟨.value<|.func f,args.toArray,di⟩,ty,pos,bf,none⟩::rest) l (ag b S<|j::b0 g par X T):=by
 subst r;refine ml (l0:=a8 T.am) (l':=a8) (cs1:=λc=>j::[eu g par T,aZ<|a8 c,aZ<|a8 T.br,T.buf.aD,T.aQ.aD,X]) (λc=>bC.tail<|bC.tail bC.head) (hd:=u) (hcb:=x) (hargs:=hargs) (λw o=>s w (o.mj<|Has.tail<|Has.tail Has.head)<|o.xT ah) λc e=>?_;have h:=t { T with am:=c } (q.tG e) e.g.symm ⟨rfl,e.g,rfl⟩
 simp only[b0] at h
 rw[tH e.g] at h
 exact h
def iX 
 (h: ∀w,bc w (b0 g par X T)->Calls P f vs.toArray w (js g par X R m v T w))
 (i: ∀a:bM,cK g R m a->aM P n ops Q rest ((d,v)::l) (ag b S<|j::b0 g par X a)) (hargs:db l args=some vs:=by exact rfl) (k:Nat.blt d n=true:=by exact rfl) (o:dX P f:=by exact cL):
 aM P n ops Q (⟨some d,.call ⟨.value<|.func f,args.toArray,di⟩,ty,pos,bf,none⟩::rest) l (ag b S<|j::b0 g par X T):=by
 refine iw rfl (hd:=k) (hcb:=o) (hargs:=hargs) λw c=>?_
 have:=h w<|c.cb ah
 simp only[jV,kr];refine this.mono ?_;rintro r s ⟨e,p,rfl,q⟩;exact⟨v,rfl,(i e p).at<|(c.mR ah q).perm<|p9 (l₁:=b0 g par X e) (l₂:=[j])⟩
def Kj{a:Chunk}
 (i: ∀w,bc w (b0 g par X T)->Calls P f vs.toArray w (js g par X R m v T w))
 (k: ∀c:bM,cK g R m c->aM P n ops Q rest ((d,v)::l) (ag b S<|j::a::b0 g par X c)) (hargs:db l args=some vs:=by exact rfl) (o:Nat.blt d n=true:=by exact rfl) (p:dX P f:=by exact cL):
 aM P n ops Q (⟨some d,.call ⟨.value<|.func f,args.toArray,di⟩,ty,pos,bf,none⟩::rest) l (ag b S<|j::a::b0 g par X T):=by
 refine iw rfl (hd:=o) (hcb:=p) (hargs:=hargs) λw e=>?_
 have:=i w<|e.cb ah
 simp only[jV,kr];refine this.mono ?_;rintro s t ⟨h,q,rfl,r⟩;exact⟨v,rfl,(k h q).at<|(e.mR ah r).perm<|p9 (l₁:=b0 g par X h) (l₂:=[j,a])⟩
end
def q0(w:World)(g par:Nat)(X:Chunk)(T:bM)(c:bc w (b0 g par X T)){R:Int}{m:Nat}(a:cK g R m T)(b:List UInt8)(f:m<=1460000000000)(h:b.length<=1000):
 ay 190 [ptr g,bU b] w (js g par X R (m+1000) (.tuple #[]) T w):=by
 have i:=a.buf
 refine bX func190 ntmps190 c ?_;refine aI ?_;refine (dg) (DT · g par T · a.bt b aa) λd e=>aA ?_;exact bT { JD g T with buf:=d } ⟨a.am,a.br,a.room,.inr rfl,a.cy,ge a.bu aa,by rw[e,b3];omega,a.aQ,a.md⟩
def vQ(w:World)(g par:Nat)(T:bM)(d: (eu g par T).pred w)(c:T.am.aq.pred w)(e:T.am.az.aq.pred w)(h:2<=T.am.az.al/\T.am.az.al<=1000):ay 260 [ptr g] w (Pure (ad<|min T.am.x<|T.am.az.al - 1) w):=by
 refine ba func260 ntmps260 ?_;refine aY ?_;refine bd (λa b=>gl a g par T<|b.ew d au)<|aH ?_;refine bd (λa b=>kj a T.am<|b.ew c au)<|lM (t:=44) (off:=0) ak fF rfl rfl rfl<|Jb (t:=3) (off:=1) ak bY rfl rfl rfl<|av ?_;refine bd (λa b=>kc a T.am<|b.ew c au)<|bd (λa b=>zf a T.am.az<|b.ew e au)<|aU ?_;exact λi f=>⟨rfl,f.ext⟩
