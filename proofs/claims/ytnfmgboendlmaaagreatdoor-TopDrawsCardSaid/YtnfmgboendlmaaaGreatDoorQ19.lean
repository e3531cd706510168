/- part 19 of the proof -/
import Derived.Test.YtnfmgboendlmaaaGreatDoorQ18
import Derived.Shelf.GgClosure.StringsIndexFuncTop
import Derived.Laws.RangeAny
set_option linter.all false
namespace Go.Proofs.YtnfmgboendlmaaaGreatDoor.Mq
open RowKit Tryz
variable {w:Array Oper}{N:Code}{M:Ending}{C:Fr}{d:List (List Int)}{s:List Int}{D:List Nat}{z:List Oper}{q:List UInt8}{g y:Nat}{k:Nat->Prop}{h:Option Addr}{t:Program}{F:Type}{E:UInt8}{u:Value}{G f v:World}{B:cN}(b:World)(p:Int)(e:List UInt8)(m:Nat->Prop)(I:FuncId)(K:List Nat)(a:List (List Int))(l:List Int)(o:UInt8)(i:Nat)(j:Option Addr)(r:Value)(J:Array Value)(L:List Chunk)
def xu: ∀(c:List UInt8)(a:UInt8),(a∉c/\Lib.indexByte c a= -1)\/ ∃d f,c=d++a::f/\a∉d/\Lib.indexByte c a=(d.length:Int)
 | [],a=> .inl ⟨by simp,rfl⟩
 | b::c,a=>by
  by_cases e:b=a
  subst e;exact .inr ⟨[],c,rfl,by simp,by simp[Lib.indexByte]⟩;rcases xu c a with ⟨g,h⟩ | ⟨d,f,g,h,i⟩
  exact .inl ⟨by simp[g,Ne.symm e],by simp[Lib.indexByte,e,h]⟩;refine .inr ⟨b::d,f,by rw[g];rfl,by simp[h,Ne.symm e],?_⟩;have: ¬((d.length:Int)= -1):=by omega
  simp[Lib.indexByte,e,i,this]
namespace cp
def iU :Bool:=decide (48<=i) && decide (i<=59)
def hQ :Bool:=e.all λa=>iU a.toNat
def nW :Int:=min (p*10+IntKind.u8.wrap ((o.toNat:Int) - 48)) 65535
def pD :Int:=if e=[] then -1 else e.foldl nW 0
def jM(a:UInt8):Nat->List UInt8->List (List UInt8)
 | 0,_=>[]
 | m+1,b=>if a∈b then b.takeWhile (· ≠a)::jM a m ((b.dropWhile (· ≠a)).drop 1) else [b]
end cp
def r8{post:List UInt8}{sep:UInt8}(b:sep∉q): (q++sep::post).takeWhile (· ≠sep)=q/\((q++sep::post).dropWhile (· ≠sep)).drop 1=post:=by
 induction q with
 | nil=>simp
 | cons c q f=>
  have g:c≠sep:=λh=>b (by simp[h])
  have d:=f λi=>b (by simp[i])
  have e:decide (c≠sep)=true:=bI g
  rw[nz,List.takeWhile_cons_of_pos (p:=λa=>decide<|a≠sep) e,List.dropWhile_cons_of_pos (p:=λa=>decide<|a≠sep) e,d.1];exact⟨rfl,d.2⟩
namespace cp
def Sg{post:List UInt8}(a:E∉q)(b:Nat):jM E (b+1) (q++E::post)=q::jM E b post:=by
 rw[jM,aB au,(r8 a).1,(r8 a).2]
def Sh(a:E∉q)(b:Nat):jM E (b+1) q=[q]:=by
 rw[jM,ai a]
def xv(a:UInt8): ∀(m:Nat)(b:List UInt8),(jM a m b).length<=m
 | 0,_=>by simp[jM]
 | m+1,b=>by
  rw[jM];split
  have:=xv a m<|(b.dropWhile (· ≠a)).drop 1;simp only[dV];omega
  simp
def kf :List Int:=(jM 58 8 e).map pD
def tB :List (List Int):=(jM 59 32 e).map kf
def IM :0<=IntKind.u8.wrap p/\IntKind.u8.wrap p<=255:=by
 simp[IntKind.wrap,IntKind.bits,IntKind.signed];omega
def IN: ∀(b:List UInt8)(a:Int),0<=a/\a<=65535->0<=b.foldl nW a/\b.foldl nW a<=65535
 | [],a,d=>d
 | c::b,a,d=>by
  rw[ui];refine IN b _ ?_;have:=IM<|(c.toNat:Int) - 48
  unfold nW;omega
end cp
def IP :
 ay 449 [bU e,.int .u8 (o.toNat:Int)] b (λa c=>a= .returned (ad<|Lib.indexByte e o)/\c=b):=by
 refine calls (n:=8) func449 rfl ntmps449 rfl<|a6 ?_;refine GC rfl rfl (λd _=>Og func487 ak ak ak ak e o d)<|aI ?_;exact λg f=>⟨rfl,f⟩
def Si :
 ay 479 [bU e,.string<|bs [o]] b (λf a=>f= .returned (ad<|Lib.indexByte e o)/\a=b):=by
 refine calls (n:=143) func479 rfl ntmps479 rfl<|fT ?_;refine bO rfl rfl au<|av ?_;refine bO rfl rfl au<|av ?_;refine bO rfl rfl au<|av ?_;refine hd rfl rfl au rfl ?_;refine (aE) (λd=>a6 ?_) λd=>aU ?_;intro g c;refine⟨?_,c⟩;rw[<-d];simp[Lib.indexByte]
 refine e_ rfl (au)<|a7 ?_;refine j2 (q:=0) underlying9 rfl rfl rfl bo (rfl: [o][0]? = some o)<|lA (λa _=>IP a e o)<|aU ?_;exact λg c=>⟨rfl,c⟩
def oV :Value:=if o∈e then .tuple #[.string (bs<|e.takeWhile (· ≠o)),.string<|bs<|(e.dropWhile (· ≠o)).drop 1,.bool true] else .tuple #[bU e,.string<|bs [],.bool false]
def Sj(p:e.length<=1000000):
 ay 441 [bU e,.string<|bs [o]] b (λl c=>l= .returned (oV e o)/\Ext [] b c):=by
 refine ba func441 ntmps441 ?_;refine b6 ?_;refine lA (λc _=>Si c e o)<|a6 ?_;rcases xu e o with ⟨m,d⟩ | ⟨a,h,f,i,d⟩
 rw[d];refine cn ?_;exact λn g=>⟨by rw[oV,ai m],g.ext⟩
 rw[d];refine e_ rfl (au) ?_;have q:a.length+1<=e.length:=by rw[f];simp
 refine av ?_;refine bN [0,1,2,3,4,5,6,7,8,9,10,11] 0 [[]] ?_;refine aA ?_;refine aO rfl (λj k=>(sS a.length underlying9 rfl rfl rfl bo aa aJ))<|a7 ?_;refine aO rfl (λj k=>(jB (r:=((a.length+1 :Nat):Int)) rfl rfl rfl (by rw[wrap64 (by simp;omega) (by simp;omega)];simp) aJ)) ?_;refine aO rfl (λj k=>(sR (a.length+1) underlying9 rfl rfl rfl bo aa aJ))<|a6 ?_;intro n g;refine⟨?_,g.ext⟩;rw[oV,aB<|by rw[f];simp,f,(r8 i).1,(r8 i).2,List.take_left',show a++o::h=(a++[o])++h by simp,List.drop_left'] <;> simp
def IQ(f:e.length<=1000000):
 ay 372 [bU e,.string<|bs [o]] b (λg h=>g= .returned (oV e o)/\Ext [] b h):=by
 refine ba func372 ntmps372 ?_;refine bP ?_;refine bF (Sj · e o f) ?_;obtain⟨a,c,d,i⟩ : ∃a c d,oV e o= .tuple #[.string a,.string c,.bool d]:=by unfold oV;split <;> exact⟨_,_,_,rfl⟩
 rw[i];refine be ?_;exact λk j=>⟨rfl,j.ext⟩
namespace cp
def Sk(s:List UInt8)(o:s.length<=1000000):
 ay 337 [bU s] b (λi d=>i= .returned (ad<|pD s)/\d=b):=by
 refine calls (n:=23) func337 rfl ntmps337 rfl ?_;refine (aE) (λe=>aY ?_) λe=>cZ ?_;exact λj f=>⟨by rw[pD,aB<|by simpa using e],f⟩
 refine cd (ι:=Nat) (λa=>[(0,bU s),(3,ad<|(s.take a).foldl nW 0),(4,ad (a:Int))]) (λ_ k=>k=b) (λa=>a<=s.length) (λa=>s.length - a) ?_ ?_;exact λd g=>⟨0,b4 _,(ed rfl rfl rfl),g⟩
 rintro a p;refine (aE) (λl=>?_) λl=>?_;obtain⟨c,h⟩ : ∃c,s[a]? = some c:=⟨s[a]'aa,bD _⟩;have q:=IN (s.take a) 0 aa
 have r:=IM<|(c.toNat:Int) - 48
 have m: (s.take<|a+1).foldl nW 0=min ((s.take a).foldl nW 0*10+IntKind.u8.wrap ((c.toNat:Int) - 48)) 65535:=by
  rw[hA,h,rp,List.foldl_append];rfl
 refine aH ?_;refine mD rfl rfl rfl (wrap64 aa aa)<|aA ?_;refine j2 (q:=a) underlying9 rfl rfl rfl aa h<|hB rfl rfl rfl rfl<|b6 ?_;refine bv (a+1) aa aa (Sub.cons bo<|Sub.cons ?_<|Sub.cons bo Sub.nil) λd g=>g;rw[m];simp[look]
 have n:s.take a=s:=eT aa
 rw[n];refine cn ?_;exact λj f=>⟨by rw[pD,ai<|by simpa using e],f⟩
def z7(x:dX prog I)(g:List (List UInt8)->World->Prop)(gj:List UInt8)(N:gj.length<=1000000)
 (d:Nat) (O:d<=1000) (y: ∀c part e,g c e->c.length<d->(part.length<=gj.length/\ ∀f∈part,f∈gj)->Calls prog I (#[]++[Value.string (bs part)].toArray++J) e λp j=>p= .returned (.tuple #[])/\g (c++[part]) j)
 (s: ∀c e j,g c e->Ext [] e j->g c j) (h:UInt8) (A:g [] b):
 ay 334 [bU gj,.string<|bs [h],ad (d:Int),.func (.func I) #[] J] b (λp e=>p= .returned (.tuple #[])/\g (jM h d gj) e):=by
 refine calls (n:=30) func334 rfl ntmps334 rfl ?_;refine dh (H':=g []) ?_ (Sub.refl _) λP s=>s▸A;refine aH ?_;refine cd (ι:=Nat × List UInt8 × List (List UInt8)) (λa=>[(0,bU a.2.1),(1,.string<|bs [h]),(2,ad (d:Int)),(3,.func (.func I) #[] J),(8,ad (a.1 :Int))]) (λa=>g a.2.2) (λa=>a.1<=d/\a.2.2.length=a.1/\(a.2.1.length<=gj.length/\ ∀f∈a.2.1,f∈gj)/\jM h d gj=a.2.2++jM h (d - a.1) a.2.1) (λa=>d - a.1) ?_ ?_;exact λe l=>⟨(0,gj,[]),⟨b4 _,rfl,⟨cC _,λf m=>m⟩,rfl⟩,(en rfl rfl rfl rfl rfl),l⟩
 rintro⟨n,r,c⟩ ⟨B,C,q,i⟩;dsimp only at B C q i ⊢
 refine (aE) (λD=>?_) λD=>aI ?_;obtain⟨t,E⟩ : ∃t,d - n=t+1:=⟨d - n - 1,aa⟩;rw[E] at i
 refine aY ?_;refine uH (v:=oV r h) (H':=g c) (λe l=>?_) ?_;refine Calls.mono (IQ e r h aa) ?_;rintro p j ⟨rfl,F⟩;exact⟨rfl,s c e j l F⟩;rcases xu r h with ⟨z,G⟩ | ⟨o,u,k,v,G⟩
 rw[oV,ai z];refine cn ?_;refine BV (v:= .tuple #[]) (H':=g<|c++[r]) rfl (hcb:=x) (y c r · · aa q)<|ft ?_;intro H w;rw[Sh z] at i
 rw[i];exact⟨rfl,w⟩;have K:h∈r:=by rw[k];simp
 rw[oV,aB K];rw[k,(r8 v).1,(r8 v).2];have Q:o.length<=r.length/\u.length<=r.length:=by rw[k];simp;omega
 have L: ∀f∈o,f∈gj:=λf m=>q.2 f (by rw[k];simp[m])
 have M: ∀f∈u,f∈gj:=λf m=>q.2 f (by rw[k];simp[m])
 refine cn ?_;refine BV (v:= .tuple #[]) (H':=g<|c++[o]) rfl (hcb:=x) (y c o · · aa ⟨aa,L⟩)<|qp ?_;rw[k,Sg v] at i
 refine bv (n+1,u,c++[o]) ⟨by dsimp only;omega,by simp;omega,⟨by dsimp only;omega,M⟩,?_⟩ bL (en rfl rfl rfl rfl rfl) λe l=>l;dsimp only;rw[i,show d - (n+1)=t by omega];simp
 intro H w;rw[show d - n=0 by omega,jM,eZ] at i
 rw[i];exact⟨rfl,w⟩
end cp
def IR:Shelf.Ren:=⟨λ| 15=>414 | 20=>469 | n=>n,λ| 0=>0 | 3=>3 | 4=>4 | 9=>9 | 21=>21 | 23=>295 | n=>n,λn=>n⟩
namespace cp
def C9:LaysGw.n15 prog IR where
 mixed:=by kernel_rfl
 f15:=func414.trans<|a_ some ak
 f20:=func469.trans<|a_ some ak
 t0:=underlying0
 a0:=isAgg0
 z0:=sizeOf0
 v0:=zeroValue0
 i0:=by kernel_rfl
 t3:=underlying3
 a3:=isAgg3
 z3:=sizeOf3
 v3:=zeroValue3
 i3:=by kernel_rfl
 t4:=underlying4
 a4:=isAgg4
 z4:=sizeOf4
 v4:=zeroValue4
 i4:=by kernel_rfl
 t9:=underlying9
 a9:=isAgg9
 z9:=sizeOf9
 v9:=zeroValue9
 i9:=by kernel_rfl
 t21:=underlying21
 a21:=isAgg21
 z21:=sizeOf21
 v21:=zeroValue21
 i21:=by kernel_rfl
 t23:=underlying295
 a23:=isAgg295
 z23:=sizeOf295
 v23:=zeroValue295
 i23:=by kernel_rfl
theorem Sl:dX prog 415:=cL
def Sm :
 ay 415 [.int .i32 (i:Int)] b (λh j=>h= .returned (.bool<|!iU i)/\j=b):=by
 refine calls (n:=17) func415 rfl ntmps415 rfl<|be ?_;refine bl 5 rfl (λf=>?_) λf=>?_;have k:=bg f
 refine be ?_;refine bl 13 rfl (λc=>?_) λc=>?_;have d:=bg c
 refine be ?_;intro e a;refine⟨?_,a⟩;have:iU i=false:=by simp[iU];omega
 rw[this,bI aa];rfl
 have d:=bm c
 refine aY ?_;exact λe a=>absurd d aa
 have k:=bm f
 refine aH ?_;refine bl 9 rfl (λg=>?_) λg=>?_;have l:=bg g
 refine aH ?_;refine bl 13 rfl (λc=>?_) λc=>?_;have d:=bg c
 refine be ?_;intro e a;refine⟨?_,a⟩;by_cases m: (i:Int)=58
 have:iU i=true:=by simp[iU];omega
 rw[this,bJ aa];rfl
 have:iU i=false:=by simp[iU];omega
 rw[this,bI m];rfl
 have d:=bm c
 refine aY ?_;intro e a;have:iU i=true:=by simp[iU];omega
 exact⟨by rw[this];rfl,a⟩;have l:=bm g
 refine b6 ?_;intro e a;have:iU i=true:=by simp[iU];omega
 exact⟨by rw[this];rfl,a⟩
def IS(b:List UInt8): ∀(f a:Nat),b.length<=f+a->(Lib.idxFuncFrom (!iU ·) true (bs b) f a<0↔ ∀(d:Nat)(e:UInt8),a<=d->b[d]? = some e->iU e.toNat=true)
 | 0,a,p=>by
  constructor
  intro _ d e k c;have:=(cH.1 c).1
  omega
  intro _;simp[Lib.idxFuncFrom]
 | f+1,a,p=>by
  unfold Lib.idxFuncFrom;rw[jf];by_cases h:a<b.length
  rw[aB h];have l:a<(bs b).size:=by rw[jf];exact h
  have m: (bs b)[a]'l=b[a]:=by simp[bs,ByteArray.getElem_eq_getElem_data]
  by_cases q: (b[a]).toNat<128
  have i:=decode_ascii (bs b) a l (by rw[m];exact q)
  rw[m] at i
  rw[i];dsimp only;by_cases j:iU (b[a]).toNat=true
  rw[ai (by simp[j]),IS b f (a+1) aa];constructor
  intro g d e k c;by_cases r:d=a
  subst r;rw[bD h] at c
  simp only[ek] at c
  rw[<-c];exact j
  exact g d e aa c;exact λg d e k c=>g d e aa c
  rw[aB (by simp[j])];constructor
  intro s;omega
  exact λg=>absurd (g a b[a] (cC _)<|bD h) j
  have i:=decode_high (bs b) a l (by rw[m];omega)
  have o: ∀n,128<=n->iU n=false:=λn t=>by simp[iU];omega
  rw[aB (by simp[o _ i.1])];constructor
  intro s;omega
  intro g;have:=g a b[a] (cC _)<|bD h
  rw[o _ aa] at this
  cases this
  rw[ai h];constructor
  intro _ d e k c;have:=(cH.1 c).1
  omega
  intro _;omega
def Sn(s:List UInt8):
 ay 333 [bU s] b (λd c=>d= .returned (.bool<|hQ s)/\Ext [] b c):=by
 have i: ∀c,ay 414 [bU s,.func (.func 415) #[] #[]] c (λd e=>d= .returned (ad<|Lib.idxFunc (!iU ·) true<|bs s)/\Ext [] c e):=λc=>by
  refine Calls.mono (Any.strings_IndexFunc C9 415 #[] (yE Sl · ·) (!iU ·) (bs s) c λW j _=>?_) λd e a=>⟨a.1,Ext.us a.2⟩;refine Calls.mono (Sm W j) λd e a=>⟨a.1,0,?_⟩;rw[a.2];rfl
 have k:decide (Lib.idxFunc (!iU ·) true (bs s)<0)=hQ s:=by
  have:=IS s s.length 0 aa
  rw[Lib.idxFunc,jf];rw[Bool.eq_iff_iff,decide_eq_true_iff,this,hQ,jW];constructor
  intro a f g;obtain⟨h,l⟩:=sz g;exact a h f (b4 _) l;exact λa h f _ g=>a f<|cR g
 refine ba func333 ntmps333 ?_;refine aY ?_;refine bF (i ·)<|aH ?_;exact λn m=>⟨by rw[k],m.ext⟩
def ct:b1 Int:=⟨λa=>[ad a],1,λ_=>rfl,λ_=>by repeat (first | exact aV.nil | refine aV.cons rfl ?_)⟩
structure nX where
 A:Option Addr
 n:Nat
 c:Nat
def ij:b1 nX:=⟨λa=>[.slice a.A a.n a.c],1,λ_=>rfl,λ_=>by repeat (first | exact aV.nil | refine aV.cons rfl ?_)⟩
def So{b:F->World->Prop}(c: ∀a,aM t g w B z C<|b a):aM t g w B z C (∃a,b a ·):=
 λd ⟨a,e⟩ f h=>c a d e f h
def Sp{H:World->Prop}(b: ∀a,H a->aM t g w B z C λc=>c=a):aM t g w B z C H:=
 λa d e f=>b a d a rfl e f
def Sq(c:Nat)(d:Value)(a:List Int)(part:List UInt8)(i:part.length<=1000000)(r:a.length<=1000)(f:World)
 (j:ag b K (aG c [d] 176::own 3 1 d a.length (ct.all a)::L) f):
 ay 336 [bU part,.pointer<|some ⟨c,0,none⟩] f (λk e=>k= .returned (.tuple #[])/\ ∃g,ag b K (aG c [g] 176::own 3 1 g (a++[pD part]).length (ct.all<|a++[pD part])::L) e):=by
 refine calls (n:=8) func336 rfl ntmps336 rfl ?_;refine dh (H':=ag b K<|aG c [d] 176::own 3 1 d a.length (ct.all a)::L) ?_ (Sub.refl _) λs l=>l▸j;refine bN [0,1,2] 3 [[(3,false,[]),(4,true,[]),(5,true,[])]] ?_;refine aA ?_;refine aO rfl (λt u=>(lA (λe _=>Sk e part i) aJ)) ?_;refine ap ?_;intro v w x;refine cv (λ_=>True) (λ_ h=> .inr<|h.rem bH.head) (λ_ h=>bh)<|aA ?_;refine hW eE rfl rfl rfl bx (λ_=>by exact fs) rfl (jE rfl) (by simp only[maxLen];omega) aa λm y=>?_;refine ap ?_;refine kA (v:=m) (Has.tail Has.head) λn o p z A B C=>?_;subst p;refine aI ?_;intro D q;refine⟨rfl,.slice n (a.length+1) o,?_⟩;rw[b3,b1.iP ct];exact q
def e3(h i:Nat)(e:List (List Int)):Prop:=
 ∃d:List nX,Rd ij b m j h i d/\d.length=e.length/\ ∀(f:Nat)(a:nX)(g:List Int),d[f]? = some a->e[f]? = some g->Rd ct b m a.A a.n a.c g
abbrev lh(a:List nX):List Chunk:=[aG i [r] 127,own 176 1 r a.length<|ij.all a]
def tC(h:List (List Int))(e:World):Prop:=
 ∃f d,ag e (aK<|lh i f d) (lh i f d) e/\Ext [] b e/\(∀a∈aK (lh i f d),b.heap.size<=a)/\d.length=h.length/\
  ∀(a:Nat)(g:nX)(j:List Int),d[a]? = some g->h[a]? = some j->Rd ct e (λa=>b.heap.size<=a/\a∉aK (lh i f d)) g.A g.n g.c j
def tC.ext(b:tC f g d v)(a:Ext [] v G):tC f g d G:=by
 obtain⟨c,e,h,i,j,k,l⟩:=b;exact⟨c,e,(h.keep a).qf,i.eC a,j,k,λm n o p q=>(l m n o p q).ext a au⟩
def Sr(x:List (List Int))(part:List UInt8)(H:part.length<=1000000)(Y:x.length<=1000)(e:World)(I:tC b i x e):
 ay 335 [bU part,.pointer<|some ⟨i,0,none⟩] e (λJ f=>J= .returned (.tuple #[])/\tC b i (x++[kf part]) f):=by
 obtain⟨g,a,K,A,y,B,L⟩:=I;have Z:=xv 58 8 part
 refine calls (n:=11) func335 rfl ntmps335 rfl ?_;refine dh (H':=ag e (aK<|lh i g a)<|lh i g a) ?_ (Sub.refl _) λC n=>n▸K;generalize Za:aK (lh i g a)=o at *
 refine aA ?_;refine sP jD rfl λp Zb Zc=>aH ?_;refine rv 3 1<|uH (v:= .tuple #[]) (H':=λf=> ∃d,ag e o (aG p [d] 176::own 3 1 d (kf part).length (ct.all<|kf part)::lh i g a) f) (λf M=>?_) ?_
 ·refine z7 f 336 #[.pointer (some ⟨p,0,none⟩)] cL (λq f=> ∃d,ag e o (aG p [d] 176::own 3 1 d (List.map pD q).length (ct.all<|List.map pD q)::lh i g a) f) part H 8 aW ?_ ?_ 58 ⟨.slice none 0 0,M.swap⟩
  ·rintro q N D ⟨d,z⟩ Zd ⟨Ze,_⟩
   rw[gF];exact Sq e o (lh i g a) p d (List.map pD q) N aa (by rw[c8];omega) D z
  ·rintro q D Zf ⟨d,z⟩ n
   exact⟨d,z.keep n⟩
 refine So λd=>kA (v:=d) (Has.tail Has.head) λj l O Zg Zh Zi Zj=>?_
 subst O;refine aH ?_;intro Zk Zl Zm;refine hW l1 rfl rfl rfl bx (λ_=>by exact oH) rfl (jE rfl) (by simp only[maxLen];omega) aa λP Zn=>?_;refine kA (v:=P) hL λr s Q Zo Zp Zq Zr=>?_;subst Q;refine ap ?_;intro R v;have w:ag e o (lh i (.slice r (a.length+1) s)<|a++[⟨j,(kf part).length,l⟩]) R:=by
  unfold lh;rw[b3,b1.iP ij];exact (v.rem bH.head).rem bH.head
 have E: ∀k,k∈aK (lh i (.slice r (a.length+1) s)<|a++[⟨j,(kf part).length,l⟩])->k∈o\/e.heap.size<=k:=λk c=>by
  rcases fd k e.heap.size with h | h
  ·exact .inl<|w.eU k c h
  ·exact .inr h
 have Zs:=A.size
 refine⟨rfl,.slice r (a.length+1) s,a++[⟨j,(kf part).length,l⟩],w.qf,A.trans w.ext λC n Zt=>absurd (y C n) aa,λk c=>?_,by simp[B],λk S T m t=>?_⟩
 ·rcases E k c with h | h
  ·exact y k h
  ·omega
 ·by_cases U:k<a.length
  ·rw[om U] at m
   rw[om aa] at t
   exact (((L k S T m t).iz aW).ext w.ext λk c=>c.1.2).d8 (λk c=>⟨c.1.1,λu=>by
    rcases E k u with h | h
    ·exact c.1.2 h
    ·have:=c.2;omega⟩)
  ·have u:k=a.length:=by
    have:=(cH.1 m).1
    simp at this;omega
   subst u;rw[i_ (cC _),ov] at m
   rw[i_ aa,B,ov] at t
   simp only[sy,ek] at m t
   subst m;subst t
   obtain⟨Zu,Zv,V,W⟩:=Rd.ho (E:=ct) (v.has<|Has.tail Has.head) rfl;cases V
   have F:=v.nodup
   refine W.d8 λk c=>⟨?_,λu=>?_⟩
   ·have X:k∈aK [aG p [Value.slice j (kf part).length l] 176,own 3 1 (Value.slice j (kf part).length l) (kf part).length<|ct.all<|kf part,aG i ([g].set 0<|Value.slice r (a.length+1) s) 127,own 176 1 (Value.slice r (a.length+1) s) (a.length+1)<|ij.all a++putAt (gg [Value.slice none 0 0] 1) (0*1) (Value.slice j (kf part).length l).cells.toList]:=by
     rw[gy,gy];exact dq.2<|.inr<|dq.2<|.inl<|kx.2 c
    rcases fd k e.heap.size with h | h
    ·exact y k<|v.eU k X h
    ·omega
   ·rw[gy,gy,gO] at F
    have G:=F.2.1
    rw[gO] at G
    exact G.2.2 k (kx.2 c) k u rfl
def z8 :Ending->World->Prop:=λc a=>
 if hQ e=true then ∃d f g,c= .returned (.tuple #[.slice d f g,.bool true])/\Ext [] b a/\e3 a (λh=>b.heap.size<=h) d f g (tB e)
 else c= .returned (.tuple #[.slice none 0 0,.bool false])/\Ext [] b a
def Ss(v:e.length<=1000000):
 ay 245 [bU e] b (z8 b e):=by
 have K:=xv 59 32 e
 refine ba func245 ntmps245 ?_;refine be ?_;refine bF (Sn · e)<|ap ?_;refine cD rfl (λj=>a6 ?_) λj=>?_
 ·intro w f
  rw[z8,ai<|by simpa using j];exact⟨rfl,f.ext⟩
 ·have x:hQ e=true:=by simpa using j
  refine a7 ?_;refine sP NY rfl λd L M=>aH ?_;refine rv 176 1<|uH (v:= .tuple #[]) (H':=tC b d<|tB e) (λl n=>?_) ?_
  ·refine z7 l 335 #[.pointer (some ⟨d,0,none⟩)] cL (λi l=>tC b d (List.map kf i) l) e v 32 aW ?_ ?_ 59 ?_
   ·rintro i y o g N ⟨O,_⟩
    rw[gF];exact Sr b d (List.map kf i) y aa (by rw[c8];omega) o g
   ·rintro i o P g h
    exact g.ext h
   ·refine⟨.slice none 0 0,[],n.swap.qf,n.ext,λk a=>?_,rfl,by simp⟩
    rw[gy,gy] at a
    simp[aG,own,aK,Value.ownBlock] at a
    omega
  refine Sp λz g=>?_
  obtain⟨m,c,A,p,B,C,D⟩:=g;refine iL (H':=ag z (aK<|lh d m c)<|lh d m c) ?_ (Sub.refl _) λq h=>h▸A;refine kA (v:=m) (Has.tail Has.head) λr s E Q R S T=>?_;subst E;refine bP ?_;intro w f;rw[z8,aB x];obtain⟨U,V,F,t⟩:=Rd.ho (E:=ij) (f.has<|Has.tail Has.head) rfl;cases F
  have W:=p.size
  have u: ∀k∈aK (lh d (.slice r c.length s) c),b.heap.size<=k:=B
  rw[show c.length=c.length from rfl] at t
  refine⟨r,c.length,s,rfl,p.trans f.ext λq h X=>absurd (u q h) aa,c,t.d8 λk a=>u k<|by rw[gy,gy];exact dq.2<|.inr<|dq.2<|.inl<|kx.2 a,C,λk G H I J=>((D k G H I J).ext f.ext λk a=>a.2).d8 λk a=>a.1⟩
def e3.len{n:Nat}(a:e3 f k h n g d):d.length=n:=by
 obtain⟨e,b,c,_⟩:=a;rw[<-c];exact b.len
def e3.za(b:e3 f k h g y d):g<=y/\y<=maxLen:=by
 obtain⟨c,a,e,_⟩:=b;exact⟨a.cap,a.max⟩
def e3.ext{gs:List (List Int)}(d:e3 f k h g y gs)(b:Ext D f v)(c: ∀a,k a->a∉D):e3 v k h g y gs:=by
 obtain⟨e,i,j,l⟩:=d;exact⟨e,i.ext b c,j,λa m n o p=>(l a m n o p).ext b c⟩
def e3.d8{F':Nat->Prop}{gs:List (List Int)}(c:e3 f k h g y gs)(b: ∀a,k a->F' a):e3 f F' h g y gs:=by
 obtain⟨d,e,i,j⟩:=c;exact⟨d,e.d8 b,i,λa l m n o=>(j a l m n o).d8 b⟩
def e3.iz{gs:List (List Int)}(b:e3 f k h g y gs):e3 f (λa=>k a/\a<f.heap.size) h g y gs:=by
 obtain⟨c,d,e,i⟩:=b;exact⟨c,d.iz aW,e,λa j l m n=>(i a j l m n).iz aW⟩
def e3.at_{b:Nat->Prop}{p:Nat}(q:e3 f b h p y d){k:Nat}{g:List Int}(e:d[k]? = some g):
 ∃a i j l,h=some a/\b a.block/\f.cell? (a.add<|k*1)=some (.slice i j l)/\Rd ct f b i j l g:=by
 obtain⟨m,r,x,t⟩:=q;have z:=(cH.1 e).1
 obtain⟨s,o⟩ : ∃s,m[k]? = some s:=⟨m[k]'aa,bD _⟩;obtain⟨a,u,v,w⟩:=r.at_ o;refine⟨a,s.A,s.n,s.c,u,v,?_,t k s g o e⟩;have:=w 0 (.slice s.A s.n s.c) rfl
 simpa [ij,Addr.add] using this
def e3.cut(c:e3 f k h g y d){p q:Nat}(e:p<=q)(i:q<=g):e3 f k (if y=p then h else h.map (·.add (p*1))) (q - p) (y - p) ((d.take q).drop p):=by
 obtain⟨j,l,m,n⟩:=c;refine⟨(j.take q).drop p,l.cut e i,by simp[m],λt o r a b=>?_⟩;rw[ja,iu] at a b
 split at a
 rename_i s;rw[aB s] at b
 exact n _ o r a b;cases a
def e3.nil(a:World)(b:Nat->Prop):e3 a b none 0 0 []:=⟨[],Rd.nil ij a b 0 aW none,rfl,by simp⟩
def u2 :Ending->World->Prop:=λg c=> ∃d e f,g= .returned (.slice d e f)/\Ext [] b c/\e3 c (λh=>b.heap.size<=h) d e f a
def C_(e:World)(f:Value)(g:World):Prop:= ∃b c d,f= .slice b c d/\e3 g (λh=>e.heap.size<=h) b c d a
def u2.IT(a:u2 f d M v):pi (C_ d f) f M v:=by
 obtain⟨b,c,e,rfl,g,h⟩:=a;exact⟨_,rfl,g,b,c,e,rfl,h⟩
def lJ(a:List nX)(g:List (List Int))(e:World):Prop:=
 ag e (aK [own 176 1 r a.length (ij.all a)]) [own 176 1 r a.length (ij.all a)] e/\Ext [] b e/\(∀d∈aK [own 176 1 r a.length (ij.all a)],b.heap.size<=d)/\a.length=g.length/\
  ∀(d:Nat)(f:nX)(h:List Int),a[d]? = some f->g[d]? = some h->Rd ct e (λd=>b.heap.size<=d/\d∉aK [own 176 1 r a.length (ij.all a)]) f.A f.n f.c h
def lJ.step{m:World}{o:Value}{b:List nX}{e:nX}(B:aK [own 176 1 u b.length (ij.all b)]=D)(h:lJ f u b d v)(g:Ext D v G)
 (C:ag G D [own 176 1 o (b.length+1) (ij.all b++ij.enc e)] m) (E:Rd ct G (λk=>f.heap.size<=k/\k∉D) e.A e.n e.c s):lJ f o (b++[e]) (d++[s]) m:=by
 obtain⟨J,t,q,w,x⟩:=h;rw[B] at q x
 have p:ag G D [own 176 1 o (b++[e]).length (ij.all<|b++[e])] m:=by
  rw[b3,b1.iP ij];exact C
 have K:=t.size
 have L:=g.size
 have r: ∀k,k∈aK [own 176 1 o (b++[e]).length (ij.all<|b++[e])]->k∈D\/G.heap.size<=k:=λk a=>by
  rcases fd k G.heap.size with h | h
  exact .inl<|p.eU k a h;exact .inr h
 have y:Ext D v m:=g.trans p.ext λz g _=>g
 refine⟨p.qf,t.trans y λz g M=>absurd (q z g) aa,λk a=>?_,by simp[w],λk F H i j=>?_⟩;rcases r k a with h | h
 exact q k h;omega
 by_cases I:k<b.length
 rw[om I] at i
 rw[om aa] at j
 exact (((x k F H i j).iz aW).ext y λk a=>a.1.2).d8 (λk a=>⟨a.1.1,λl=>by
  rcases r k l with h | h
  exact a.1.2 h;have:=a.2;omega⟩)
 have l:k=b.length:=by
  have:=(cH.1 i).1
  simp at this;omega
 subst l;rw[i_ (cC _),ov] at i
 rw[i_ aa,w,ov] at j
 simp only[sy,ek] at i j
 subst i;subst j
 exact ((E.iz aW).ext p.ext λk a=>a.1.2).d8 (λk a=>⟨a.1.1,λl=>by
  rcases r k l with h | h
  exact a.1.2 h;have:=a.2;omega⟩)
def lJ.ret{b:List nX}{gs:List (List Int)}(g:lJ f u b gs v): ∃c d,u= .slice c b.length d/\Ext [] f v/\e3 v (λa=>f.heap.size<=a) c b.length d gs:=by
 obtain⟨h,i,j,k,l⟩:=g;obtain⟨c,d,m,n⟩:=Rd.ho (E:=ij) (h.has Has.head) rfl;exact⟨c,d,m,i,b,n.d8 λa e=>j a<|by rw[gy];exact dq.2<|.inl<|kx.2 e,k,λa o p q r=>(l a o p q r).d8 λa e=>e.1⟩
def lJ.nil(a:ag f [] [own 176 1 (.slice none 0 0) 0 []] v):lJ f (.slice none 0 0) [] [] v:=
 ⟨a.qf,a.ext,λc b=>by simp[aK,own,Value.ownBlock] at b,rfl,by simp⟩
def lJ.later{a:List nX}(h:lJ f u a d v)(b:ag v (aK [own 176 1 u a.length (ij.all a)]) [own 176 1 u a.length (ij.all a)] G):lJ f u a d G:=by
 obtain⟨r,c,e,i,j⟩:=h;have s:=c.size
 exact⟨b.qf,c.trans b.ext λk l t=>absurd (e k l) aa,e,i,λg m n o p=>(j g m n o p).ext b.ext λg q=>q.2⟩
def oW :Int:=max (-1)<|min p 65535
def kT :List Int:=if l=[] then [-1] else (l.take 8).map oW
def fM :List (List Int):=if a=[] then [[-1]] else (a.take 32).map kT
def St :ay 431 [ad p] b (λa c=>a= .returned (ad<|oW p)/\c=b):=by
 refine calls (n:=6) func431 rfl ntmps431 rfl<|dO ?_;exact λe d=>⟨rfl,d⟩
def jH{a:List F}{b:F}(c:a[g]? = some b):a.take (g+1)=a.take g++[b]:=by rw[hA,c];rfl
def Su{H:World->Prop}(b: ∀a,H a->dA t g N B C λc=>c=a):dA t g N B C H:=
 λa d e f=>b a d a rfl e f
def Sv(r:Nat->Prop)(j:Option Addr)(f k:Nat)(c:List Int)(n:Rd ct b r j f k c)(K:f<=1000000):
 ay 362 [.slice j f k] b (jC ct b<|kT c):=by
 have p:=n.len
 have L:=n.cap
 refine ba func362 ntmps362 ?_;refine (aE) (λs=>ap ?_) λs=>ap ?_;intro M t N;refine aH ?_;intro u e;have v:c=[]:=jX aa
 rw[kT,aB v];have w:=Rd.iR (E:=ct) (L:=[-1]) e Has.head rfl aW
 exact⟨_,_,_,rfl,e.ext,w.d8 λd g=>by rw[g];exact t⟩;refine lz 3 1<|bP ?_;obtain⟨m,y⟩ : ∃m,m=min f 8:=⟨_,rfl⟩;refine gp 0 m eE rfl rfl (.inr ⟨rfl,rfl⟩) (.inl ⟨_,_,rfl,rfl,aa⟩) aa aa ?_;have o:=n.cut (p:=0) (q:=m) aa aa
 generalize z: (if k=0 then j else j.map (·.add (0*1)))=A
 rw[show ct.ax=1 from rfl,z] at o
 rw[lv,lv] at *
 rw[ol] at o
 have B: (c.take m).length=m:=by rw[dR];omega
 have C:kT c=(c.take m).map oW:=by
  rw[kT,ai λD=>by rw[D] at p;simp at p;omega];congr 1
  rw[y];by_cases h:f<=8
  rw[jZ h,eT aa,eT aa];rw[Nat.min_eq_right aa]
 refine aI ?_;refine cd (ι:=Nat × Value) (λa=>[(3,a.2),(14,.slice A m k),(15,ad (m:Int)),(16,ad (a.1 :Int))]) (λa=>ag b [] [own 3 1 a.2 a.1 (ct.all<|((c.take m).take a.1).map oW)]) (λa=>a.1<=m) (λa=>m - a.1) ?_ ?_;exact λl i=>⟨(0,.slice none 0 0),b4 _,(da rfl rfl rfl rfl),i⟩
 rintro⟨d,O⟩ g;dsimp only at g ⊢
 refine (aE) (λE=>?_) λE=>?_;obtain⟨x,q⟩ : ∃x,(c.take m)[d]? = some x:=⟨(c.take m)[d]'aa,bD _⟩;obtain⟨P,Q,_,F⟩:=o.at_ q;refine aH ?_;refine bE (q:=d) eE rfl rfl rfl bR aa aa<|bb bY rfl rfl (λl i=>i.ch (F 0 _ rfl) au)<|aH ?_;refine lA (λl _=>St l x)<|av ?_;intro R S T;refine hW eE rfl rfl rfl bx (λ_=>by exact cJ) rfl (jE rfl) (by simp only[maxLen];omega) aa λG U=>?_;refine aY ?_;refine bv (d+1,G) bL bL (da rfl rfl rfl rfl) λl i=>?_;dsimp only;rw[jH q,gF,ku,rl,b1.iP ct];exact i;have H:d=m:=by omega
 subst H;refine cn ?_;intro u e;rw[C];rw[eT aa] at e
 obtain⟨V,W,I,J⟩:=Rd.ho (E:=ct) (e.has Has.head) (by rw[c8];exact B);exact⟨_,_,_,a_ _ I,e.ext,J.d8 (λd g=>by
  rcases fd d b.heap.size with h | h
  have:=e.eU d (by rw[gy];exact dq.2<|.inl<|kx.2 g) h
  cases this
  exact h)⟩
def Sw : (kT l).length<=8:=by
 unfold kT;split
 simp
 rw[c8,dR];omega
def Da : (fM a).length<=32:=by
 unfold fM;split
 simp
 rw[c8,dR];omega
def Sx : ∀d∈fM a,1<=d.length/\d.length<=8:=by
 intro d c;have e: ∀b:List Int,1<=(kT b).length:=λb=>by
  unfold kT;split
  simp
  rename_i f;have:b.length≠0:=λg=>f<|jX g
  rw[c8,dR];omega
 unfold fM at c
 split at c
 rw[e0.1 c];simp
 obtain⟨b,_,rfl⟩:=ei.1 c;exact⟨e b,Sw b⟩
def Db(L:Nat->Prop)(k:Option Addr)(g l:Nat)(d:List (List Int))(t:e3 b L k g l d)(Zp:g<=1000000)(M: ∀A∈d,A.length<=1000000):
 ay 271 [.slice k g l] b (u2 b<|fM d):=by
 have B:=t.len
 have Zq:=t.za
 refine ba func271 ntmps271 ?_;refine (aE) (λu=>ap ?_) λu=>ap ?_;intro C N Zr;refine av ?_;intro Zs O Zt;refine aH ?_;intro P h;have n:d=[]:=jX aa
 rw[fM,aB n];have o:=Rd.iR (E:=ct) (L:=[-1]) h (Has.tail Has.head) rfl aW
 have Q:=Rd.iR (E:=ij) (L:=[⟨some ⟨C,0,none⟩,1,1⟩]) h Has.head rfl (by show 1<=maxLen;decide)
 refine⟨_,_,_,rfl,h.ext,[⟨some ⟨C,0,none⟩,1,1⟩],Q.d8 λa e=>by rw[e];exact O,rfl,λa Zu A v n=>?_⟩;cases a with
 | zero=>
  simp only[sy,ek] at v n
  subst v;subst n
  exact o.d8 (λa e=>by rw[e];exact N)
 | succ a=>simp at v
 refine lz 176 1<|bP ?_;obtain⟨m,R⟩ : ∃m,m=min g 32:=⟨_,rfl⟩;refine gp 0 m l1 rfl rfl (.inr ⟨rfl,rfl⟩) (.inl ⟨_,_,rfl,rfl,aa⟩) aa aa ?_;have w:=t.cut (p:=0) (q:=m) aa aa
 generalize Zv: (if l=0 then k else k.map (·.add (0*1)))=T at w
 rw[lv,lv] at *
 rw[ol] at w
 have Zw: (d.take m).length=m:=by rw[dR];omega
 have U:fM d=(d.take m).map kT:=by
  rw[fM,ai λV=>by rw[V] at B;simp at B;omega];congr 1
  rw[R];by_cases W:g<=32
  rw[jZ W,eT aa,eT aa];rw[Nat.min_eq_right aa]
 have X:=w.iz
 refine aI ?_;refine cd (ι:=Nat × Value × List nX) (λc=>[(3,c.2.1),(15,.slice T m l),(16,ad (m:Int)),(17,ad (c.1 :Int))]) (λc=>lJ b c.2.1 c.2.2<|((d.take m).take c.1).map kT) (λc=>c.1<=m/\c.2.2.length=c.1) (λc=>m - c.1) ?_ ?_;exact λr f=>⟨(0,.slice none 0 0,[]),⟨b4 _,rfl⟩,(da rfl rfl rfl rfl),lJ.nil f⟩
 rintro⟨a,D,i⟩ ⟨e,E⟩;dsimp only at e E ⊢
 refine Su λF s=>?_
 obtain⟨Y,G,Z,Zx,Zy⟩:=id s;generalize y:aK [own 176 1 D i.length (ij.all i)]=S at *
 have Zz:=G.size
 refine dh (H':=ag F S [own 176 1 D i.length (ij.all i)]) ?_ (Sub.refl _) λx j=>j▸Y;have Za:=X.ext G au
 have H: ∀a,a<b.heap.size->a∉S:=λa e z=>by have:=Z a z;omega
 refine (aE) (λZb=>?_) λZb=>?_;obtain⟨x,j⟩ : ∃x,(d.take m)[a]? = some x:=⟨(d.take m)[a]'aa,bD _⟩;obtain⟨ZA,Zc,p,q,ZB,Zd,Ze,o⟩:=Za.at_ j;have ZC:=o.len
 have ZD:=M x<|hz<|cR j
 refine aH ?_;refine bE (q:=a) l1 rfl rfl rfl bR aa aa ?_;refine bb jD rfl rfl (λr f=>f.ch Ze<|by rw[block_add];exact H _ Zd.2) ?_;refine aH ?_;refine yN (hargs:=rfl) (λr f=>Sv r _ Zc p q x (o.ext f.ext λa e=>H a e.2) aa) λZE Zf Zg Zh Zi I Zj ZF J K=>?_;have ZG:=K.len
 have Zk:Ext S F Zf:=I.ext.eC Zj
 have ZH:=I.ext.size
 refine av ?_;intro ZI ZJ ZK;refine hW l1 rfl rfl rfl bx (λ_=>by exact cJ) rfl (jE rfl) (by simp only[maxLen];omega) aa λZl ZL=>?_;refine aY ?_;refine bv (a+1,Zl,i++[⟨Zg,Zh,Zi⟩]) ⟨by dsimp only;omega,by simp[E]⟩ bL (da rfl rfl rfl rfl) λr f=>?_;dsimp only;rw[jH j,gF,ku,rl];rw[y] at f J
 exact lJ.step y s Zk f<|K.d8 λa e=>⟨aa,λz=>by have:=J a z;omega⟩;have Zm:a=m:=by omega
 subst Zm;refine cn ?_;intro P h;rw[U];rw[eT aa] at s
 subst y;obtain⟨ZM,ZN,Zn,Zo,u⟩:=lJ.ret<|lJ.later s h;exact⟨_,_,_,a_ _ Zn,Zo,u⟩
def IU : ∀f∈fM a,∃b e,f=b::e/\ -1<=b/\b<=65535:=by
 have g: ∀c:List Int,∃b e,kT c=b::e/\ -1<=b/\b<=65535:=λc=>by
  unfold kT;split
  exact⟨-1,[],rfl,aa,aa⟩;rename_i h;cases c with
  | nil=>exact absurd rfl h
  | cons i c=>exact⟨oW i,_,rfl,by unfold oW;omega,by unfold oW;omega⟩
 intro f d;unfold fM at d
 split at d
 rw[e0.1 d];exact⟨-1,[],rfl,aa,aa⟩
 obtain⟨c,_,rfl⟩:=ei.1 d;exact g c
def xw :Int:=l.headD<|-1
def oX(b:Int):Int:=if 0<=b/\b<(a.length:Int) then xw (a.getD b.toNat []) else -1
def oY(b c:Int):Int:=if oX (fM a) b= -1 then c else oX (fM a) b
def IV{y:Int}(a:d[g]? = some (y::s)):oX d (g:Int)=y:=by
 have b:=(cH.1 a).1
 rw[oX,aB aa];simp[xw,List.getD,a]
def IW(i n:Nat)(a:List (List Int))(C:e3 b m j i n a)(D:i<=1000000)(E: ∀g∈a,g.length<=1000000)(h u:Int):
 ay 186 [.slice j i n,ad h,ad u] b (λv d=>v= .returned (ad<|oY a h u)/\Ext [] b d):=by
 refine ba func186 ntmps186 ?_;refine aY ?_;refine oF (R:=λw=>C_ (fM a) w) (λd c=>(Db d m j i n a (C.ext c.ext au) D E).mono λv M F=>F.IT) ?_;rintro w G N H I O P ⟨Q,R,S,rfl,x⟩;have l:Ext [] b G:=H.ext.eC I
 have T:=x.len
 refine a6 ?_;refine bl 12 rfl (λo=>?_) λo=>?_;have J:=bg o
 refine oI ?_;exact λp e=>⟨by rw[oY,aB<|show oX (fM a) h= -1 by rw[oX,ai aa]],l.eC<|e.ext.mono λq f _=>by simp[aK] at f⟩
 have J:=bm o
 refine be ?_;refine bl 18 rfl (λr=>?_) λr=>?_;have K:=bg r
 refine gR ?_;exact λp e=>⟨by rw[oY,aB<|show oX (fM a) h= -1 by rw[oX,ai aa]],l.eC<|e.ext.mono λq f _=>by simp[aK] at f⟩
 have K:=bm r
 obtain⟨k,rfl⟩ : ∃k:Nat,h=k:=⟨h.toNat,aa⟩;obtain⟨g,s⟩ : ∃g,(fM a)[k]? = some g:=⟨(fM a)[k]'aa,bD _⟩;obtain⟨U,V,W,X,Y,_,y,z⟩:=x.at_ s;obtain⟨Z,Za,rfl,Zb,Zc⟩:=IU a g<|cR s;have L:=z.len
 simp only[dV] at L
 obtain⟨Zd,Ze,_,A⟩:=z.at_ (k:=0) rfl;have B:=IV s
 refine aI ?_;refine bE (q:=k) l1 rfl rfl rfl bR aa aa<|av ?_;refine bb jD rfl rfl (λd c=>c.ch y<|by simp[aK])<|av ?_;refine bE (q:=0) eE rfl rfl rfl bR aa aa<|av ?_;refine bb bY rfl rfl (λd c=>c.ch (A 0 _ rfl)<|by simp[aK]) ?_;refine (aE) (λt=>a6 ?_) λt=>aH ?_;exact λp e=>⟨by rw[oY,B,aB t],l.eC<|e.ext.mono λq f _=>by simp[aK] at f⟩
 refine bE (q:=k) l1 rfl rfl rfl bR aa aa<|bb jD rfl rfl (λd c=>c.ch y<|by simp[aK])<|bE (q:=0) eE rfl rfl rfl bR aa aa<|bb bY rfl rfl (λd c=>c.ch (A 0 _ rfl)<|by simp[aK])<|aI ?_;exact λp e=>⟨by rw[oY,B,ai t],l.eC<|e.ext.mono λq f _=>by simp[aK] at f⟩
def xx :List Int:=(fM a).map λb=>max 0<|xw b
def Sy(l n:Nat)(c:List (List Int))(u:e3 b m j l n c)(v:l<=1000000)(w: ∀g∈c,g.length<=1000000):
 ay 272 [.slice j l n] b (jC ct b<|xx c):=by
 have J:=Da c
 refine ba func272 ntmps272 ?_;refine aH ?_;refine lz 3 1<|aY ?_;refine oF (R:=λq=>C_ (fM c) q) (λe d=>(Db e m j l n c (u.ext d.ext au) v w).mono λK L h=>h.IT) ?_;rintro q o M x y N O ⟨z,f,A,rfl,r⟩;have s:Ext [] b o:=x.ext.eC y
 have P:=r.len
 have B:aK [own 3 1 (.slice none 0 0) 0 []]=[]:=by simp[aK,own,Value.ownBlock]
 rw[B];refine aI ?_;refine cd (ι:=Nat × Value) (λa=>[(3,a.2),(7,.slice z f A),(8,ad (f:Int)),(9,ad (a.1 :Int))]) (λa=>ag o [] [own 3 1 a.2 a.1 (ct.all<|((fM c).take a.1).map λg=>max 0<|xw g)]) (λa=>a.1<=f) (λa=>f - a.1) ?_ ?_;exact λe d=>⟨(0,.slice none 0 0),b4 _,(da rfl rfl rfl rfl),d⟩
 rintro⟨k,Q⟩ C;dsimp only at C ⊢
 refine (aE) (λD=>?_) λD=>?_;obtain⟨g,i⟩ : ∃g,(fM c)[k]? = some g:=⟨(fM c)[k]'aa,bD _⟩;obtain⟨R,S,T,U,V,_,E,t⟩:=r.at_ i;obtain⟨W,a,rfl,X,Y⟩:=IU c g<|cR i;have F:=t.len
 simp only[dV] at F
 obtain⟨Z,Za,_,G⟩:=t.at_ (k:=0) rfl;refine aH ?_;refine bE (q:=k) l1 rfl rfl rfl bR aa aa<|bb jD rfl rfl (λe d=>d.ch E au)<|aH ?_;refine bE (q:=0) eE rfl rfl rfl bR aa aa<|bb bY rfl rfl (λe d=>d.ch (G 0 _ rfl) au)<|aA ?_;intro Zb Zc Zd;refine hW eE rfl rfl rfl bx (λ_=>by exact cJ) rfl (jE rfl) (by simp only[maxLen];omega) aa λH Ze=>?_;refine aY ?_;refine bv (k+1,H) bL bL (da rfl rfl rfl rfl) λe d=>?_;dsimp only;rw[jH i,gF,ku,rl,b1.iP ct];exact d;have I:k=f:=by omega
 subst I;rw[eT aa];refine cn ?_;intro Zf p;refine jC.ho (s.eC p.ext) (p.has Has.head) (by rw[xx,c8];omega) λg i=>?_;have Zg:=s.size
 rcases fd g o.heap.size with h | h
 exact absurd (p.eU g (by rw[gy];exact dq.2<|.inl<|kx.2 i) h) au;omega
def r9 :Prop:=a.length<=32/\ ∀b∈a,1<=b.length/\b.length<=8/\ ∀c∈b,-1<=c/\c<=65535
def v0 :Int:=max 0<|l.headD 0
def eG :Int:=match a[i]? with | some b=>v0 b | none=>0
def r9.at_(e:r9 d)(f:d[g]? = some s): ∃a b,s=a::b/\ -1<=a/\a<=65535/\b.length<=7:=by
 have c:=e.2 s<|cR f
 cases s with
 | nil=>exact absurd c.1 au
 | cons a b=>exact⟨a,b,rfl,(c.2.2 a au).1,(c.2.2 a au).2,by have:=c.2.1;simp at this;omega⟩
def Sz(b:r9 d)(a:Nat):0<=eG d a/\eG d a<=65535:=by
 unfold eG;cases c:d[a]? with
 | none=>simp
 | some e=>
  obtain⟨f,g,rfl,h,i,_⟩:=b.at_ c;simp only[v0,List.headD_cons];omega
def Dc(k l:Nat)(c:List (List Int))(n:e3 b m j k l c)(q:r9 c)(a:Nat)(w:a<=1000):
 ay 436 [.slice j k l,ad (a:Int)] b (λr e=>r= .returned (ad<|eG c a)/\Ext [] b e):=by
 have x:=n.len
 refine ba func436 ntmps436 ?_;refine cn ?_;refine bl 9 rfl (λf=>?_) λf=>?_;have s:=bg f
 refine gQ ?_;exact λt h=>⟨by rw[eG,hK aa],h.ext⟩
 have s:=bm f
 obtain⟨g,i⟩ : ∃g,c[a]? = some g:=⟨c[a]'aa,bD _⟩;obtain⟨y,z,A,B,C,_,o,p⟩:=n.at_ i;obtain⟨D,E,rfl,F,G,H⟩:=q.at_ i;have u:=p.len
 simp only[dV] at u
 obtain⟨I,J,_,v⟩:=p.at_ (k:=0) rfl;refine aI ?_;refine bE (q:=a) l1 rfl rfl rfl bR aa aa<|av ?_;refine bb jD rfl rfl (λe d=>d.ch o<|by simp[aK])<|aU ?_;refine ff rfl ((bJ aa))<|aH ?_;refine bE (q:=a) l1 rfl rfl rfl bR aa aa<|bb jD rfl rfl (λe d=>d.ch o<|by simp[aK])<|bE (q:=0) eE rfl rfl rfl bR aa aa<|bb bY rfl rfl (λe d=>d.ch (v 0 _ rfl)<|by simp[aK])<|aH ?_;exact λt h=>⟨by rw[eG,i];rfl,h.ext⟩
