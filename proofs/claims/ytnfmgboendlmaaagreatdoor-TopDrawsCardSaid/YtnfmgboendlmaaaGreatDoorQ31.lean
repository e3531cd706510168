/- part 31 of the proof -/
import Derived.Test.YtnfmgboendlmaaaGreatDoorQ30
set_option linter.all false
namespace Go.Proofs.YtnfmgboendlmaaaGreatDoor.Mq
open RowKit
variable {D g t:Int}{p:List Int}{G e:List UInt8}{b u:List aL}{R:List aL->List aL}{d x:List bq}{K f z:Nat}{s:UInt8}{i:a1}{q:aL}{B:bq}{h:cA}{I v:d4}{J l:dH}{M:fv}(j:List aL)(N:d4 × List Int)(m:Int)(o:Nat)(w:List bq)(A:cA)(F:aL)(H:Nat)(L:List bq)(O:UInt8)(C:Int)(E:dH)(P:List Int)(Q:a1)
def ni(c:cA)(d:List UInt8):Prop:= ∀a:d4,a.eH=0->a.fN=0-> ∃b:d4,b.eH=0/\b.fN=0/\d.foldlM (kY m) (eA,0,a,A)=some (eA,0,b,c)
def ni.nil :ni m A A []:=λa b c=>⟨a,b,c,rfl⟩
def ni.oG{a b:cA}(c:ni g h a e)(d:ni g a b G):ni g h b (e++G):=by
 intro f i j;obtain⟨k,l,m,n⟩:=c f i j;obtain⟨o,p,q,r⟩:=d k l m;refine⟨o,p,q,?_⟩;rw[rk,n];exact r
def xX(b:v.eH=0)(c:v.fN=0)(d: (s.toNat:Int)<128):
 kY g (M,t,v,h) s=(dZ M t g s).bind λa=>(a.2.foldlM gV h).bind λe=>some (a.1.1,a.1.2,v,e):=by
 unfold kY;rw[aB ⟨b,c,d⟩]
def KH{most:Int}{t:cA}(d:v.eH=0)(e:v.fN=0): ∀(b a:List UInt8),(∀c∈b,48<=(c.toNat:Int)/\(c.toNat:Int)<60)->a.length+b.length<=200->
 b.foldlM (kY most) ({ eA with head:=a },2,v,t)=some ({ eA with head:=a++b },2,v,t)
 | [],a,_,_=>by simp
 | c::b,a,f,g=>by
  have h:=f c au
  simp only[dV] at g
  rw[lu,xX d e aa];have i:dZ { eA with head:=a } 2 most c=some (({ eA with head:=a++[c] },2),[]):=by
   unfold dZ;rw[ai aW,ai aW,ai aW,aB rfl];unfold nc;rw[aB ⟨h,rfl,rfl,by show a.length<256;omega⟩]
  rw[i];have:=KH (most:=most) (t:=t) d e b (a++[c]) (λj k=>f j<|by simp[k]) (by simp;omega)
  rw[ec] at this
  exact this
def AQ{u:cA}(f: ∀d∈e,48<=(d.toNat:Int)/\(d.toNat:Int)<60)(i:e.length<=200)(j:64<=(s.toNat:Int)/\(s.toNat:Int)<127)
 (k:AL h s.toNat (mn e)=some u):ni g h u ([27,91]++e++[s]):=by
 intro a b c;refine⟨a,b,c,?_⟩;have l: ([27,91]:List UInt8).foldlM (kY g) (eA,0,a,h)=some (eA,2,a,h):=by
  rw[lu,xX b c aW];have m:dZ eA 0 g 27=some ((eA,1),[]):=rfl
  rw[m];show List.foldlM (kY g) (eA,1,a,h) [91]=_
  rw[lu,xX b c aW];have n:dZ eA 1 g 91=some ((eA,2),[]):=rfl
  rw[n];rfl
 rw[rk,rk,l];show ((e.foldlM (kY g) (eA,2,a,h)) >>= λo=>[s].foldlM (kY g) o)=_
 have p:=KH (most:=g) (t:=h) b c e [] f (by simpa using i)
 have q:e.foldlM (kY g) (eA,2,a,h)=some ({ eA with head:=e },2,a,h):=p
 rw[q];show List.foldlM (kY g) ({ eA with head:=e },2,a,h) [s]=_
 rw[lu,xX b c aa];have r:dZ { eA with head:=e } 2 g s=some ((eA,0),[⟨3,0,s.toNat,0,[],[],false,mn e⟩]):=by
  unfold dZ;rw[ai aW,ai aW,ai aW,aB rfl];unfold nc;rw[ai aa,aB ⟨j,rfl⟩];rfl
 rw[r];have t:gV h ⟨3,0,s.toNat,0,[],[],false,mn e⟩=some u:=by
  unfold gV;dsimp only;rw[ai aW,ai aW,ai aW,aB rfl];unfold q3;rw[aB ⟨rfl,rfl⟩];exact k
 show (([(⟨3,0,s.toNat,0,[],[],false,mn e⟩ :fW)].foldlM gV h).bind λu=>some (eA,0,a,u)) >>= _=_
 rw[lu,t];rfl
def V3{most:Int}{t:cA}{c:UInt8}(h:32<=(c.toNat:Int)/\(c.toNat:Int)<127):ni most t { t with am:=ke t.am (c.toNat:Int) } [c]:=by
 intro a b d;refine⟨a,b,d,?_⟩;rw[lu,xX b d aa];have e:dZ eA 0 most c=some ((eA,0),[⟨0,c.toNat,0,0,[],[],false,[]⟩]):=by
  unfold dZ;rw[aB rfl,ai aa,ai aa,ai aa]
 rw[e];show (([(⟨0,c.toNat,0,0,[],[],false,[]⟩ :fW)].foldlM gV t).bind λf=>some (eA,0,a,f)) >>= _=_
 have g:gV t ⟨0,c.toNat,0,0,[],[],false,[]⟩=some { t with am:=ke t.am (c.toNat:Int) }:=by
  unfold gV;rw[aB rfl]
 rw[lu,g];rfl
def V4(b:128<=(s.toNat:Int)):kY g (eA,0,v,h) s=(iG v s).bind λa=>(vA a.2).bind λc=>(c.foldlM gV h).bind λd=>some (eA,0,a.1,d):=by
 unfold kY;rw[ai bL,aB ⟨rfl,b⟩]
def KI{a b:Nat}(c:b<64):a*64 ||| b=a*64+b:=by
 have:=Nat.two_pow_add_eq_or_of_lt (i:=6) c a
 rw[rn] at this
 exact this.symm
def vX(c:0<=g/\g<1048576)(d:0<=t/\t<256):kV g t=g*64+t%64:=by
 obtain⟨m,rfl⟩ : ∃m:Nat,g=m:=⟨g.toNat,aa⟩;obtain⟨k,rfl⟩ : ∃k:Nat,t=k:=⟨t.toNat,aa⟩;have a:Ai m=((m*64 :Nat):Int):=by
  unfold Ai;rw[show (m:Int)*2 ^ min (6 :Int).toNat IntKind.i32.bits=(m:Int)*64 from rfl,nG aa aa];omega
 have b:Aj k=((k%64 :Nat):Int):=by
  unfold Aj;rw[show (63 :Int)=((63 :Nat):Int) from rfl,and_eq (k:= .u8) (m:=k) (n:=63) (r:=((k%64 :Nat):Int)) rfl rfl (by simp[IntKind.bits];omega) aW<|by rw[up k 6,mN aa aa]];exact nG aa aa
 unfold kV;rw[a,b];rw[or_eq (k:= .i32) (m:=m*64) (n:=k%64) (r:=((m*64+k%64 :Nat):Int)) rfl rfl (by simp[IntKind.bits];omega) (by simp[IntKind.bits];omega) (by rw[KI aa,nG aa aa])];omega
def AR : (eW o H).toNat=128+o/2 ^ (6*H)%64:=by
 unfold eW;have a: (o/2 ^ (6*H))%256 &&& 63=o/2 ^ (6*H)%64:=by
  rw[up _ 6];omega
 rw[a];have b:o/2 ^ (6*H)%64<64:=jA _ aW
 have:=KI (a:=2) b
 rw[show 2*64=128 by rfl] at this
 rw[this,ky];omega
def Eh{a b:Nat}(c:b<2 ^ o):2 ^ o*a ||| b=2 ^ o*a+b:=(Nat.two_pow_add_eq_or_of_lt c a).symm
def Ei{r:Int}(a:0<=cO r):32<=r/\(r<127\/160<=r)/\(r<55296\/57344<=r)/\r<=1114111:=by
 unfold cO at a
 split at a
 omega
 rename_i b;unfold zg at b
 simp only[ny,dK,eQ] at b
 omega
def Ej{d:d4}{c:UInt8}{sz:Int}(a:d.eH=0)(b:jN c.toNat=sz)(e:2<=sz):iG d c=some (⟨lO c.toNat sz,sz - 1,1,(hk c.toNat).1,(hk c.toNat).2⟩,[]):=Je a b aa aa
def jQ :Option (d4 × List Int):=(iG N.1 O).map λa=>(a.1,N.2++a.2)
def q5{a:List Int}(b:iG v s=some (I,p)): (s::e).foldlM jQ (v,a)=e.foldlM jQ (I,a++p):=by
 rw[lu];have:jQ (v,a) s=some (I,a++p):=by unfold jQ;rw[b];rfl
 rw[this];rfl
def KJ(s:nJ f=true)(u:128<=f)(v:f<=1114111)(w:f<55296\/57344<=f)(j:d4)(m:j.eH=0)(p:List Int): ∃n:d4,n.eH=0/\n.fN=0/\(dk f).foldlM jQ (j,p)=some (n,p++[(f:Int)]):=by
 have q:=AR f 0
 simp only[Nat.mul_zero,Nat.pow_zero,Nat.div_one] at q
 have c: (eW f 0).toNat=128+f%64:=q
 have h: ∀l:List Int,l++[]=l:=eZ
 unfold dk;rw[aB s,ai aa];split
 obtain⟨a,d⟩ : ∃a,a=UInt8.ofNat (192 ||| (f/64)%256):=⟨_,rfl⟩;have b:a.toNat=192+f/64:=by
  have:=Eh (a:=6) (b:=f/64) 5 aa
  rw[show 2 ^ 5*6=192 by rfl] at this
  rw[d,qb aa,this,ky];omega
 have e:=Ej (d:=j) (c:=a) (sz:=2) m (by rw[b];unfold jN;omega) aW
 rw[show hk a.toNat=(128,191) by rw[b];unfold hk;rw[ai aa,ai aa,ai aa,ai aa],show lO a.toNat 2=((f/64 :Nat):Int) by rw[b];unfold lO;rw[aB rfl];omega] at e
 have g:=Al (d:=⟨((f/64 :Nat):Int),2 - 1,1,128,191⟩) (c:=eW f 0) au (by rw[c];dsimp only;omega) (by rw[c];dsimp only;omega) au
 rw[show kV ((f/64 :Nat):Int) (eW f 0).toNat=(f:Int) by rw[vX aa aa,c];omega] at g
 refine⟨⟨(f:Int),2 - 1 - 1,0,128,191⟩,rfl,rfl,?_⟩;rw[gw,<-d];rw[q5 e,h];rw[q5 g];rfl
 have i: (eW f 1).toNat=128+f/64%64:=AR f 1
 split
 obtain⟨a,d⟩ : ∃a,a=UInt8.ofNat (224 ||| (f/4096)%256):=⟨_,rfl⟩;have b:a.toNat=224+f/4096:=by
  have:=Eh (a:=14) (b:=f/4096) 4 aa
  rw[show 2 ^ 4*14=224 by rfl] at this
  rw[d,qb aa,this,ky];omega
 have e:=Ej (d:=j) (c:=a) (sz:=3) m (by rw[b];unfold jN;omega) aW
 rw[show lO a.toNat 3=((f/4096 :Nat):Int) by rw[b];unfold lO;rw[ai aW,aB rfl];omega] at e
 have t: (hk a.toNat).1<=((128+f/64%64 :Nat):Int)/\((128+f/64%64 :Nat):Int)<=(hk a.toNat).2:=by
  rw[b];unfold hk
  split
  dsimp only;omega
  split
  dsimp only;omega
  rw[ai aa,ai aa];dsimp only;omega
 have g:=Ak (d:=⟨((f/4096 :Nat):Int),3 - 1,1,(hk a.toNat).1,(hk a.toNat).2⟩) (c:=eW f 1) au (by rw[i];dsimp only;omega) (by rw[i];dsimp only;omega) au
 rw[show kV ((f/4096 :Nat):Int) (eW f 1).toNat=((f/64 :Nat):Int) by rw[vX aa aa,i];omega] at g
 have k:=Al (d:=⟨((f/64 :Nat):Int),3 - 1 - 1,1+1,128,191⟩) (c:=eW f 0) au (by rw[c];dsimp only;omega) (by rw[c];dsimp only;omega) au
 rw[show kV ((f/64 :Nat):Int) (eW f 0).toNat=(f:Int) by rw[vX aa aa,c];omega] at k
 refine⟨⟨(f:Int),3 - 1 - 1 - 1,0,128,191⟩,rfl,rfl,?_⟩;rw[gw,<-d];rw[q5 e,h];rw[q5 g,h];rw[q5 k];rfl
 have o: (eW f 2).toNat=128+f/4096%64:=AR f 2
 obtain⟨a,d⟩ : ∃a,a=UInt8.ofNat (240 ||| (f/262144)%256):=⟨_,rfl⟩;have b:a.toNat=240+f/262144:=by
  have:=Eh (a:=30) (b:=f/262144) 3 aa
  rw[show 2 ^ 3*30=240 by rfl] at this
  rw[d,qb aa,this,ky];omega
 have e:=Ej (d:=j) (c:=a) (sz:=4) m (by rw[b];unfold jN;omega) aW
 rw[show lO a.toNat 4=((f/262144 :Nat):Int) by rw[b];unfold lO;rw[ai aW,ai aW];omega] at e
 have t: (hk a.toNat).1<=((128+f/4096%64 :Nat):Int)/\((128+f/4096%64 :Nat):Int)<=(hk a.toNat).2:=by
  rw[b];unfold hk
  rw[ai aa,ai aa];split
  dsimp only;omega
  split
  dsimp only;omega
  dsimp only;omega
 have g:=Ak (d:=⟨((f/262144 :Nat):Int),4 - 1,1,(hk a.toNat).1,(hk a.toNat).2⟩) (c:=eW f 2) au (by rw[o];dsimp only;omega) (by rw[o];dsimp only;omega) au
 rw[show kV ((f/262144 :Nat):Int) (eW f 2).toNat=((f/4096 :Nat):Int) by rw[vX aa aa,o];omega] at g
 have k:=Ak (d:=⟨((f/4096 :Nat):Int),4 - 1 - 1,1+1,128,191⟩) (c:=eW f 1) au (by rw[i];dsimp only;omega) (by rw[i];dsimp only;omega) au
 rw[show kV ((f/4096 :Nat):Int) (eW f 1).toNat=((f/64 :Nat):Int) by rw[vX aa aa,i];omega] at k
 have r:=Al (d:=⟨((f/64 :Nat):Int),4 - 1 - 1 - 1,1+1+1,128,191⟩) (c:=eW f 0) au (by rw[c];dsimp only;omega) (by rw[c];dsimp only;omega) au
 rw[show kV ((f/64 :Nat):Int) (eW f 0).toNat=(f:Int) by rw[vX aa aa,c];omega] at r
 refine⟨⟨(f:Int),4 - 1 - 1 - 1 - 1,0,128,191⟩,rfl,rfl,?_⟩;rw[gw,<-d];rw[q5 e,h];rw[q5 g,h];rw[q5 k,h];rw[q5 r];rfl
def KK{m:Nat}(b:m<=1114111)(c:m<55296\/57344<=m):nJ m=true:=by
 unfold nJ;simp only[dK,eQ,p4];refine⟨⟨aa,aa⟩,?_⟩;rcases a:decide ((55296 :Int)<=m) && decide ((m:Int)<=57343) with _ | _
 rfl
 simp only[dK,eQ] at a;omega
def V5 :128<=((eW o H).toNat:Int):=by rw[AR];omega
def V6{b:Nat}(a:128<=f)(c:f<256):128<=((UInt8.ofNat<|f ||| b%256).toNat:Int):=by
 have d:f ||| b%256<2 ^ 8:=ou aa aa
 have:=Nat.left_le_or (n:=f) (m:=b%256)
 rw[ky];omega
def V7(c:128<=g): ∀e∈dk g,128<=(e.toNat:Int):=by
 have d:=λb=>V5 g.toNat b
 have f:=λb (c:128<=b/\b<256) h=>V6 (b:=h) c.1 c.2
 unfold dk;split
 ·rw[ai aa]
  intro e a;repeat' split at a
  all_goals
   simp only[eJ,o9,or_false] at a
   rcases a with a | a
   ·rw[a];exact f _ aW _
   ·first
    | (rw[a];exact d _)
    | (rcases a with a | a <;> first | (rw[a];exact d _) | (rcases a with a | a <;> (rw[a];exact d _)))
 ·simp
def Ek(a:iG v s=some (I,p)):p.length<=1:=by
 unfold iG at a
 split at a
 split at a
 cases a
 split at a
 have b:=a_ Prod.snd<|lw a;dsimp only at b;rw[<-b];exact cC 1
 have b:=a_ Prod.snd<|lw a;dsimp only at b;rw[<-b];exact b4 1
 split at a
 cases a
 split at a
 have b:=a_ Prod.snd<|lw a;dsimp only at b;rw[<-b];exact b4 1
 have b:=a_ Prod.snd<|lw a;dsimp only at b;rw[<-b];exact cC 1
def KL: ∀(h:List UInt8)(f d:d4)(b e:List Int),h.foldlM jQ (f,b)=some (d,e)-> ∃i,e=b++i
 | [],f,d,b,e,a=>by
  have a:some (f,b)=some (d,e):=a
  injection a with a
  injection a with _ g
  exact⟨[],by rw[<-g,eZ]⟩
 | c::h,f,d,b,e,a=>by
  rw[lu] at a
  obtain⟨⟨q,r⟩,l,m⟩:=k7.1 a;obtain⟨⟨n,j⟩,s,o⟩:=sO.1 l;injection o with k g
  dsimp only at k g
  subst k g;obtain⟨i,p⟩:=KL h n d (b++j) _ m;exact⟨j++i,by rw[p,ec]⟩
def V8(c:p.length<=1)(d: ∀e∈p,160<=e)(a:cA): ∃bi,vA p=some bi/\bi.foldlM gV a=some { a with am:=p.foldl ke a.am }:=by
 match p,c with
 | [],_=>exact⟨[],rfl,rfl⟩
 | [b],_=>
  refine⟨[⟨0,b,0,0,[],[],false,[]⟩],aB<|d b au,?_⟩;rw[lu];have:gV a ⟨0,b,0,0,[],[],false,[]⟩=some { a with am:=ke a.am b }:=by
   unfold gV;rw[aB rfl]
  rw[this];rfl
def KM : ∀(e:List UInt8)(i f:d4)(a b:List Int)(h:cA),(∀c∈e,128<=(c.toNat:Int))->(∀r∈b,160<=r)->e.foldlM jQ (i,a)=some (f,a++b)->e.foldlM (kY g) (eA,0,i,h)=some (eA,0,f,{ h with am:=b.foldl ke h.am })
 | [],i,f,a,b,h,_,_,d=>by
  have d:some (i,a)=some (f,a++b):=d
  injection d with d
  injection d with l m
  have:b=[]:=by simpa using m
  subst l this;rfl
 | c::e,i,f,a,b,h,p,q,d=>by
  rw[lu] at d ⊢
  obtain⟨⟨D,E⟩,w,s⟩:=k7.1 d;obtain⟨⟨n,j⟩,t,x⟩:=sO.1 w;injection x with l m
  dsimp only at l m
  subst l m;obtain⟨u,v⟩:=KL e n f (a++j) _ s;have o:b=j++u:=List.append_cancel_left (by rw[v,ec])
  subst o;rw[V4 (p c au),t];show ((vA j).bind λo=>(o.foldlM gV h).bind λy=>some (eA,0,n,y)) >>= _=_
  have k: ∀r∈j,160<=r:=λr k=>q r (by simp[k])
  obtain⟨bi,z,A⟩:=V8 (Ek t) k h;rw[z,sN,A];show e.foldlM (kY g) (eA,0,n,_)=_
  rw[KM e n f (a++j) u _ (λB C=>p B<|by simp[C]) (λr k=>q r<|by simp[k]) (by rw[s,v])];rw[List.foldl_append]
def KN{most:Int}{t:cA}{r:Int}(e:0<=cO r):ni most t { t with am:=ke t.am r } (dk r):=by
 obtain⟨k,l,n,o⟩:=Ei e;obtain⟨m,rfl⟩ : ∃m:Nat,r=m:=⟨r.toNat,aa⟩;have a:=KK (m:=m) aa aa
 by_cases f: (m:Int)<128
 unfold dk;rw[aB a,aB f];have b: (UInt8.ofNat (m:Int).toNat).toNat=m:=by rw[ky];omega
 have:=V3 (most:=most) (t:=t) (c:=UInt8.ofNat (m:Int).toNat) (by rw[b];omega)
 rw[b] at this
 exact this;intro c g _;obtain⟨d,h,i,j⟩:=KJ a aa aa aa c g [];exact⟨d,h,i,KM _ c d [] [(m:Int)] t (V7 aa) (by simp;omega) j⟩
def V9: ∀a:Nat,a<=65535->(Lib.decDigits a).foldl cp.nW 0=(a:Int):=by
 intro a;induction a using Nat.strongRecOn with
 | _ a c=>
  intro d;by_cases b:a<10
  rw[bj.qK b];show cp.nW 0 _=_
  unfold cp.nW;rw[ky,qb aa,mN aa aa];omega
  rw[bj.xk b,List.foldl_append,c (a/10) aa aa];show cp.nW _ _=_
  unfold cp.nW;rw[ky,qb aa,mN aa aa];omega
def El : ∀b∈Lib.decDigits f,48<=b.toNat/\b.toNat<=57:=by
 induction f using Nat.strongRecOn with
 | _ f d=>
  intro b a;by_cases c:f<10
  rw[bj.qK c] at a
  rw[e0.1 a,ky];omega
  rw[bj.xk c] at a
  rcases dq.1 a with a | a
  exact d (f/10) aa b a;rw[e0.1 a,ky];omega
def V_ :Lib.decDigits o≠[]:=by
 by_cases a:o<10
 rw[bj.qK a];simp
 rw[bj.xk a];simp
def AS{u:Nat}(b:57<s.toNat):s∉Lib.decDigits u:=λa=>by have:=El s a;omega
def KO{u:Nat}(a:u<=65535):cp.kf (Lib.decDigits u)=[(u:Int)]:=by
 unfold cp.kf;rw[cp.jM,ai<|AS aW];simp only[ku,rl,cp.pD];rw[ai (V_ u),V9 u a]
def AT :bj.fK (m::C::P)=Lib.itoa m++59::bj.fK (C::P):=by
 rw[bj.r7,bj.r7];simp[bj.qM]
def tQ(a:0<=g):Lib.itoa g=Lib.decDigits g.toNat:=by unfold Lib.itoa;rw[ai aa]
def KP: ∀(b:List Int)(a:Nat),b≠[]->b.length<=a->(∀x∈b,0<=x/\x<=65535)->(cp.jM 59 a<|bj.fK b).map cp.kf=b.map (λx=>[x])
 | [],_,g,_,_=>absurd rfl g
 | [x],a,_,d,e=>by
  obtain⟨c,rfl⟩ : ∃c,a=c+1:=⟨a - 1,by simp at d;omega⟩;have f:=e x au
  have h:bj.fK [x]=Lib.decDigits x.toNat:=by rw[bj.r7,tQ f.1];simp[bj.qM]
  rw[h,cp.jM,ai<|AS aW];simp only[ku,rl,KO (u:=x.toNat) aa];rw[show ((x.toNat:Nat):Int)=x by omega]
 | x::i::b,a,_,d,e=>by
  obtain⟨c,rfl⟩ : ∃c,a=c+1:=⟨a - 1,by simp at d;omega⟩;have f:=e x au
  rw[AT,tQ f.1,cp.jM,aB au,(r8<|AS aW).1,(r8<|AS aW).2];rw[ku,KO (u:=x.toNat) aa,KP (i::b) c au (by simp at d ⊢;omega) λj k=>e j<|by simp[k],show ((x.toNat:Nat):Int)=x by omega];rfl
def xY: ∀(c:List Int),(∀x∈c,0<=x)-> ∀b∈bj.fK c,48<=(b.toNat:Int)/\(b.toNat:Int)<60
 | [],_=>by simp[bj.fK,Lib.join]
 | [x],d=>by
  have e:bj.fK [x]=Lib.decDigits x.toNat:=by rw[bj.r7,tQ<|d x au];simp[bj.qM]
  intro b a;rw[e] at a
  have:=El b a;omega
 | x::f::c,d=>by
  intro b a;rw[AT,tQ<|d x au] at a
  rcases dq.1 a with a | a
  have:=El b a;omega
  rcases eJ.1 a with rfl | a
  decide
  exact xY (f::c) (λg h=>d g<|by simp[h]) b a
def Em(c:p≠[])(d:p.length<=32)(b: ∀a∈p,0<=a/\a<=65535):mn (bj.fK p)=p.map (λa=>[a]):=by
 unfold mn;rw[aB,cp.tB,KP p 32 c d b];unfold cp.hQ;rw[jW];intro e f;have:=xY p (λa g=>(b a g).1) e f
 unfold cp.iU;simp only[dK,eQ];omega
def AU: ∀(k a:Nat),a<10 ^ (k+1)->(Lib.decDigits a).length<=k+1
 | 0,a,b=>by rw[bj.qK aa];simp
 | k+1,a,b=>by
  by_cases c:a<10
  rw[bj.qK c];simp
  rw[bj.xk c,b3];have:=AU k (a/10)<|Nat.div_lt_of_lt_mul (by rw[Nat.pow_succ] at b;omega)
  simp only[dV,gN];omega
def vY(a:Nat): ∀(b:List Int),(∀x∈b,0<=x/\x.toNat<10 ^ (a+1))->(bj.fK b).length<=(a+2)*b.length
 | [],_=>by simp[bj.fK,Lib.join]
 | [x],d=>by
  have c:=d x au
  have e:bj.fK [x]=Lib.decDigits x.toNat:=by rw[bj.r7,tQ c.1];simp[bj.qM]
  have:=AU a x.toNat c.2
  rw[e];simp;omega
 | x::f::b,d=>by
  have c:=d x au
  have i:=vY a (f::b) λg h=>d g (by simp[h])
  have:=AU a x.toNat c.2
  rw[AT,tQ c.1,b3,dV,dV,Nat.mul_add];omega
def KQ(c:p≠[])(d:p.length<=32)(e: ∀a∈p,0<=a/\a<=65535):cp.fM (p.map λa=>[a])=p.map (λa=>[a]):=by
 unfold cp.fM;rw[ai (by simpa using c),eT<|by simpa using d,o8];refine sD λb f=>?_
 have:=e b f
 show cp.kT [b]=[b]
 unfold cp.kT cp.oW;rw[ai au];simp
 omega
def En{l:List Int}{i:Nat}{x:Int}(a:l≠[])(b:l.length<=32)(c: ∀x∈l,0<=x/\x<=65535)(d:l[i]? = some x)(g:1<=x):kX (l.map λx=>[x]) (i:Int)=x:=by
 have e:=KQ a b c
 have f: (l.map λx=>[x])[i]? = some (x::[]):=by rw[fw,d];rfl
 unfold kX cp.oY;rw[e,cp.IV f,ai aa];omega
def mu :List UInt8:=[27,91]++Lib.itoa (m+1)++[59]++Lib.itoa (C+1)++[72]
def tR :List UInt8:=[27,91]++bj.lg (E)++[109]
def pW :List UInt8:=[27,91]++Lib.itoa m++[88]
def KR :mu m C=[27,91]++bj.fK [m+1,C+1]++[72]:=by
 rw[mu,AT,bj.r7];simp[bj.qM]
def q6{y x:Int}(a:0<=y/\y<999)(b:0<=x/\x<999): (mu y x).length<=11:=by
 have:=vY 2 [y+1,x+1] (by simp;omega)
 rw[KR];simp only[b3,dV,gN] at this ⊢
 omega
def Wa(b:hc l): (tR l).length<=87:=by
 have c:=cp.I9 b
 have f:=cp.I_ l
 have:=vY 2 _ λa d=>⟨(c a d).1,by have:=(c a d).2;show a.toNat<1000;omega⟩
 have e:bj.lg l=bj.fK (bj.hP l):=aB b
 rw[tR,e];simp only[b3,dV,gN];omega
def KS{n:Int}(a:0<=n/\n<1000): (pW n).length<=6:=by
 have:=AU 2 n.toNat (by show n.toNat<1000;omega)
 rw[pW,tQ a.1];simp only[b3,dV,gN];omega
def Sem(a:List bq)(b:dH)(c d:Int)(e:List UInt8):Prop:= ∃f,ni m A { A with am:=gt Q a b c d f } e
structure kZ (S:a1) (rows:List bq):Prop where
 n:1<=rows.length/\rows.length<=1000
 al:2<=S.bz.al/\S.bz.al<=1000
 cont: ∀r∈rows,r.2=false
def Sem.step{f j:Int}(a:Sem g h i d l t D e)(k: ∀b,∃c,ni g { h with am:=gt i d l t D b } { h with am:=gt i x J f j c } G):Sem g h i x J f j (e++G):=by
 obtain⟨b,a⟩:=a;obtain⟨c,m⟩:=k b;exact⟨c,a.oG m⟩
def AV{y x:Int}(m:jo i)(c:kZ i d)(o:0<=y/\y<d.length)(p:0<=x/\x<i.bz.al)(q:Sem g h i d l t D e):Sem g h i d l y x (e++mu y x):=by
 refine q.step λr=>⟨r,?_⟩
 have u:=c.n;have v:=c.al
 have b: ∀a∈[y+1,x+1],0<=a/\a<=65535:=by simp;omega
 rw[KR];refine AQ (xY _ λa c=>(b a c).1) (by have:=vY 3 _ λa f=>⟨(b a f).1,by have:=b a f;simp at f;show a.toNat<10000;omega⟩;simp at this;omega) aW ?_;rw[Em au au b];unfold AL pS;rw[aB aW];have j:=En (l:=[y+1,x+1]) (i:=0) au au b rfl aa
 have k:=En (l:=[y+1,x+1]) (i:=1) au au b rfl aa
 simp only[Int.ofNat_eq_natCast,Int.natCast_zero,Int.natCast_one] at j k
 rw[j,k];show some _=some _
 rw[show y+1 - 1=y by omega,show x+1 - 1=x by omega];exact a_ (λs=>some { h with am:=s })<|Sd m o p
def Wb{c:dH}(f:hc J)(n:Sem g h i d c t D e):Sem g h i d J t D (e++tR J):=by
 refine n.step λl=>⟨l,?_⟩
 have j:=cp.I9 f
 have r:=cp.I_ J
 have m:bj.hP J≠[]:=by simp[bj.hP]
 have k: ∀a∈bj.hP J,0<=a/\a<=65535:=λa b=>by have:=j a b;omega
 have o:bj.lg J=bj.fK (bj.hP J):=aB f
 unfold tR;rw[o];refine AQ (xY _ λa b=>(k a b).1) (by have:=vY 3 _ λa b=>⟨(j a b).1,by have:=(j a b).2;show a.toNat<10000;omega⟩;omega) aW ?_;rw[Em m aa k];have p:sb (gt i d c t D l) ((bj.hP J).map λD=>[D])=gt i d J t D l:=by
  unfold sb;rw[KQ m aa k];have:=cp.S_ c J f
  unfold cp.single at this
  simp only[gt,this]
 show some _=some _
 exact a_ (λq=>some { h with am:=q }) p
def putRow_set(a:d[f]? = some (b,false)):putRow d (f:Int) R=d.set f (R b,false):=by
 unfold putRow;rw[gw];apply jY
 intro e;have g:=(cH.1 a).1
 rw[List.getElem?_modify,nB];by_cases c:f=e
 subst c;rw[a];simp[g]
 simp[c]
def KT{r:Int}(j:jo i)(a:d[f]? = some (b,false))(k:1<=cO r)(m:t+cO r<=i.bz.al)(n:Sem g h i d l f t e):
 Sem g h i (d.set f (cX (gZ · t r l) b,false)) l f (t+cO r) (e++dk r):=by
 refine n.step λc=>⟨r,?_⟩
 have o:=(cH.1 a).1
 have:=KN (most:=g) (t:={ h with am:=gt i d l f t c }) (r:=r) aa
 rw[show ke ({ h with am:=gt i d l (f:Int) t c }:cA).am r=_ from Se j ⟨aa,aa⟩ k m,putRow_set a] at this
 exact this
def KU(j:jo i)(c:d[f]? = some (b,false))(k:cO D=0)(m:Sem g h i d l f t e):
 Sem g h i (d.set f (cX (eq · (t - 1) D) b,false)) l f t (e++dk D):=by
 refine m.step λa=>⟨a,?_⟩
 have n:=(cH.1 c).1
 have:=KN (most:=g) (t:={ h with am:=gt i d l f t a }) (r:=D) aa
 rw[show ke ({ h with am:=gt i d l (f:Int) t a }:cA).am D=_ from Sf j ⟨aa,aa⟩ k,putRow_set c] at this
 exact this
def Wc{n:Int}(o:kZ i d)(k:d[f]? = some (b,false))(p:t<i.bz.al)(q:1<=n/\n<=1000)(r:Sem g h i d l f t e):
 Sem g h i (d.set f (cX (hE · t (t+n) l.aq l.aR) b,false)) l f t (e++pW n):=by
 refine r.step λc=>⟨c,?_⟩
 have x:=(cH.1 k).1
 have j: ∀a∈[n],0<=a/\a<=65535:=by simp;omega
 have s:pW n=[27,91]++bj.fK [n]++[88]:=by rw[pW,bj.r7];simp[bj.qM]
 rw[s];refine AQ (xY _ λa u=>(j a u).1) (by have:=vY 3 [n] (by simp;omega);simp at this;omega) aW ?_;rw[Em au au j];have v:=En (l:=[n]) (i:=0) au au j rfl aa
 have m:=IL (S:=i) (on:=l) (l:=c) (y:=(f:Int)) (x:=t) (n:=n) ⟨aa,aa⟩ p q o.cont
 rw[putRow_set k] at m
 have w:kX ([n].map λt=>[t]) 0=n:=v
 show some { h with am:=qD (gt i d l f t c) (kX ([n].map λt=>[t]) 0) } = _
 rw[w,m]
def KV{Z:List aL}{a:dH}{r:Int}(q:jo i)(s:dU b)(t:Cut b z)(u: (b.take z).length=z)(v:r≠0)(w:b7 Z=Z): ∀(c:List Int)(d e:List UInt8)(j:List bq),(∀k∈c,cO k=0)->(d++c.flatMap dk).length<=32->j[f]? = some (b.take z++⟨r,d,0,a⟩::Z,false)->
 Sem g h i j l f ((z:Int)+1) e->Sem g h i (j.set f (b.take z++⟨r,d++c.flatMap dk,0,a⟩::Z,false)) l f ((z:Int)+1) (e++c.flatMap dk)
 | [],d,e,j,_,_,m,n=>by
  simp only[rj,eZ];rw[sc m];exact n
 | k::c,d,e,j,o,p,m,n=>by
  simp only[nA] at p ⊢
  have A:=(cH.1 m).1
  have x:=KU q m (o k au) n
  rw[R_ s t u v (o k au) (by simp only[b3] at p ⊢;omega) w aa] at x
  have y:=KV q s t u v w c (d++dk k) (e++dk k) _ (λB C=>o B<|by simp[C]) (by rw[ec];exact p) (by rw[oo A]) x
  rw[sI,ec,ec] at y
  exact y
def KW{Z:List aL}{a:dH}{r:Int}(q:jo i)(s:dU b)(t:Cut b z)(u: (b.take z).length=z)(v:r≠0)(w:b7 Z=Z): ∀(d:List Int)(c e:List UInt8)(j:List bq),(∀k∈d,cO k=0)->(c++d.flatMap dk).length<=32->j[f]? = some (b.take z++⟨r,c,1,a⟩::⟨r,c,2,a⟩::Z,false)->
 Sem g h i j l f ((z:Int)+2) e->Sem g h i (j.set f (b.take z++⟨r,c++d.flatMap dk,1,a⟩::⟨r,c++d.flatMap dk,2,a⟩::Z,false)) l f ((z:Int)+2) (e++d.flatMap dk)
 | [],c,e,j,_,_,m,n=>by
  simp only[rj,eZ];rw[sc m];exact n
 | k::d,c,e,j,o,p,m,n=>by
  simp only[nA] at p ⊢
  have A:=(cH.1 m).1
  have x:=KU q m (o k au) n
  rw[Sa s t u v (o k au) (by simp only[b3] at p ⊢;omega) w aa] at x
  have y:=KW q s t u v w d (c++dk k) (e++dk k) _ (λB C=>o B<|by simp[C]) (by rw[ec];exact p) (by rw[oo A]) x
  rw[sI,ec,ec] at y
  exact y
def Eo(a:1<=cO g):g≠0:=λb=>by rw[b,qN] at a;omega
def Wd{x:Nat}{c:aL}(l:jo i)(m:dU b)(t:dU u)(v:b.length=u.length)(a:b[x]? = some c)(n:c.half=0)(j:cO c.r=1)(w:oT c.more)(G: (b.length:Int)=i.bz.al)
 (o:d[f]? = some (fB b u x,false)) (y:Sem g h i d c.at_ f x e):Sem g h i (d.set f (fB b u<|x+1,false)) c.at_ f ((x:Int)+1) (e++dk c.r++c.more):=by
 have z:Cut b x:=λH p=>by rw[a] at p;cases p;rw[n];decide
 obtain⟨A,I⟩:=vt a;have B:=(cH.1 o).1
 have q:=KT (r:=c.r) l o aa (by rw[j];omega) y
 rw[R8 m t v a n j,j] at q
 obtain⟨C,D,E,s⟩:=w;have k:=KV (r:=c.r) (a:=c.at_) (Z:=b7<|u.drop<|x+1) l m z A (Eo aa) (ta _) D [] _ _ E (by rw[mA,<-s];exact C) (by rw[oo B]) q
 rw[sI,mA,<-s] at k
 have F: (⟨c.r,c.more,0,c.at_⟩ :aL)=c:=by cases c;simp_all
 rw[F,Sb a] at k
 exact k
def We{x:Nat}{c:aL}(n:jo i)(j:dU b)(v:dU u)(w:b.length=u.length)(a:b[x]? = some c)(k:c.half=1)(l:cO c.r=2)(y:oT c.more)(H: (b.length:Int)=i.bz.al)
 (o:d[f]? = some (fB b u x,false)) (z:Sem g h i d c.at_ f x e):Sem g h i (d.set f (fB b u<|x+2,false)) c.at_ f ((x:Int)+2) (e++dk c.r++c.more):=by
 have A:Cut b x:=λI p=>by rw[a] at p;cases p;rw[k];decide
 obtain⟨B,J⟩:=vt a;have q:=j.pair a k
 have K:=(vt q.1).2
 have C:=(cH.1 o).1
 have s:=KT (r:=c.r) n o aa (by rw[l];omega) z
 rw[R9 j v w a k l,l] at s
 obtain⟨D,E,F,t⟩:=y;have m:=KW (r:=c.r) (a:=c.at_) (Z:=b7<|u.drop<|x+2) n j A B (Eo aa) (ta _) E [] _ _ F (by rw[mA,<-t];exact D) (by rw[oo C]) s
 rw[sI,mA,<-t] at m
 have G: (⟨c.r,c.more,1,c.at_⟩ :aL)=c:=by cases c;simp_all
 rw[G,Sc a q.1] at m
 exact m
structure vZ (c:aL):Prop where
 a:hc c.at_
 k:c=hr c.at_.aq c.at_.aR\/oT c.more/\(c.half=0/\cO c.r=1\/(c.half=1\/c.half=2)/\cO c.r=2)
structure q7 (T:List aL):Prop where
 rt:dU T
 c: ∀c∈T,vZ c
def AW :Bool:=decide<|j[o]?.map (·.half)=some 2
def Wg{x:Nat}:AW b x=false↔Cut b x:=by
 unfold AW Cut;cases b[x]? <;> simp
def mv :Nat:=if AW j o=true then o+1 else o
abbrev fD(a:List aL)(b:Nat):List aL:=fB j a<|mv j b
def nj{x:Nat}(a:Cut b x):mv b x=x:=by unfold mv;rw[ai (by rw[Wg.2 a];decide)]
def KX(a:b[f]? = some q)(c:q.half=2):mv b f=f+1:=by
 unfold mv AW;rw[a];simp[c]
def dU.xZ(c:dU b):Cut b 0:=by
 intro f a;cases c with
 | nil=>simp at a
 | one d _=>simp at a;subst a;rw[d];decide
 | two e _=>simp at a;subst a;rw[e];decide
def Ep{x:Nat}(c:b[x]? = some q)(d:q.half≠2):Cut b x:=λe a=>by rw[c] at a;cases a;exact d
def KY(d:dU b){x:Nat}(a:b[x]? = some q)(c:q.half=2):mv b (x+1)=mv b x:=by
 rw[KX a c,nj<|d.cut a<|by rw[c];decide]
def Wh:kX (mn []) 0=1:=by decide
def x0:List UInt8:=[27,91,88]
def Wi(k:kZ i d)(c:d[f]? = some (b,false))(m:t<i.bz.al)(n:Sem g h i d l f t e):
 Sem g h i (d.set f (cX (hE · t (t+1) l.aq l.aR) b,false)) l f t (e++x0):=by
 refine n.step λa=>⟨a,?_⟩
 have p:=(cH.1 c).1
 have o:x0=[27,91]++[]++[88]:=rfl
 rw[o];refine AQ au au aW ?_;have j:=IL (S:=i) (on:=l) (l:=a) (y:=(f:Int)) (x:=t) (n:=1) ⟨aa,aa⟩ m aW k.cont
 rw[putRow_set c] at j
 show some { h with am:=qD (gt i d l f t a) (kX (mn []) 0) } = _
 rw[Wh,j]
def Wj{c:aL}(a:b[f]? = some c):b.take (f+1)=b.take f++List.replicate 1 c:=by rw[xt a];rfl
def KZ(o:jo i)(l:q7 b)(p:dU u)(s:b.length=u.length)(t: (b.length:Int)=i.bz.al)(j:b[z]? = some q)(y:q.r≠0)(v:q.half≠2)
 (m:d[f]? = some (fD b u z,false)) (w:Sem g h i d q.at_ f z e):Sem g h i (d.set f (fD b u<|z+1,false)) q.at_ f (mv b (z+1):Nat) (e++dk q.r++q.more):=by
 have A:=Ep j v
 rw[fD,nj A] at m
 rcases (l.c q<|cR j).k with B | ⟨x,⟨a,n⟩ | ⟨a,n⟩⟩
 exact absurd (by rw[B];rfl) y;have:=Wd o l.rt p s j a n x t m w
 rw[fD,nj<|l.rt.cut j<|by rw[a];decide];exact this;have a:q.half=1:=a.resolve_right v
 have:=We o l.rt p s j a n x t m w
 rw[fD,KX (l.rt.pair j a).1 rfl];exact this
def Wk(a:kZ i d)(m:q7 b)(n:dU u)(o:b.length=u.length)(t: (b.length:Int)=i.bz.al)(c:Cut b z)(p:1<=K)(q:z+K<=b.length)(r:b.take (z+K)=b.take z++List.replicate K (hr l.aq l.aR))(j:Cut b (z+K))
 (k:d[f]? = some (fD b u z,false)) (s:Sem g h i d l f z e):Sem g h i (d.set f (fD b u<|z+K,false)) l f z (e++pW K):=by
 have v:=a.al
 rw[fD,nj c] at k
 have:=Wc (n:=(K:Int)) a k aa ⟨aa,aa⟩ s
 rw[IJ m.rt n o c p q r j rfl rfl] at this
 rw[fD,nj j];exact this
def Wl(a:dU u){x:Nat}(c:b.take (x+f)=b.take x++List.replicate f eo)(d:u.drop x=List.replicate f eo++u.drop (x+f))(e:Cut u (x+f))(g:Cut u x):fB b u (x+f)=fB b u x:=by
 unfold fB;rw[c,(a.vr (x:=x)).2 g,(a.vr (x:=x+f)).2 e,d,ec]
def si(a:aL):List UInt8:=if a.half=2 then [] else mu m C++if a.r=0 then x0 else dk a.r++a.more
def Wm{y x:Nat}(r:jo i)(s:kZ i d)(f:q7 b)(v:dU u)(w:b.length=u.length)(E: (b.length:Int)=i.bz.al)(a:b[x]? = some q)
 (j:d[y]? = some (fD b u x,false)) (z:Sem g h i d q.at_ t D e): ∃F G:Int,Sem g h i (d.set y (fD b u<|x+1,false)) q.at_ F G (e++si y x q):=by
 have I:=(cH.1 j).1
 have J:=(cH.1 a).1
 unfold si;split
 rename_i l;refine⟨t,D,?_⟩;rw[eZ,fD,KY f.rt a l,sc j];exact z;rename_i l;have A:=Ep a l
 have B:=AV r s (y:=(y:Int)) (x:=(x:Int)) ⟨aa,aa⟩ ⟨aa,aa⟩ z
 split
 rename_i m;have n:q=hr q.at_.aq q.at_.aR:=by
  rcases (f.c q<|cR a).k with n | ⟨_,⟨_,p⟩ | ⟨_,p⟩⟩
  exact n;rw[m,qN] at p;omega
  rw[m,qN] at p;omega
 have H:q.half≠1:=by rw[n];show (0 :Int)≠1;decide
 have C:=f.rt.cut a H
 refine⟨y,x,?_⟩;rw[fD,nj A] at j
 have o:=Wi s j aa B
 rw[IJ f.rt v w A (n:=1) (k:=q.at_.aq) (v:=q.at_.aR) (a:=(x:Int)) (b:=(x:Int)+1) aW aa (by rw[<-n];exact Wj a) C rfl rfl] at o
 rw[fD,nj C,<-ec];exact o;rename_i m;have o:=KZ r f v w E a m l j B
 refine⟨y,(mv b (x+1):Nat),?_⟩;rw[<-ec,<-ec];exact o
def K0{F:List aL}(a:dU F)(c:b.take f=F.take f)(d:Cut b f)(e:Cut F f):fD b F f=F:=by
 rw[fD,nj d,fB,(a.vr (x:=f)).2 e,c,iJ]
def K1{T:List aL}(a:dU b)(c:T.drop f=b.drop f)(d:Cut T f)(e:Cut b f):fD T b f=T:=by
 rw[fD,nj d,fB,(a.vr (x:=f)).2 e,<-c,iJ]
def km(a:Nat):List bq:=w.take a++L.drop a
def K2 :km w L 0=L:=by simp[km]
def K3(a:d.length=x.length):km d x d.length=d:=by unfold km;rw[um,a,uh,eZ]
def K4(b:d.length=x.length)(a:Nat): (km d x a).length=x.length:=by simp[km];omega
def Eq(b:d.length=x.length){F:bq}(a:x[f]? = some F): (km d x f)[f]? = some F:=by
 have:=(cH.1 a).1
 unfold km;rw[i_ (by simp only[dR];omega),ja,show f+(f - (d.take f).length)=f by simp;omega,a]
def Er(e:d.length=x.length){y:Nat}(a:d[y]? = some B): (km d x y).set y B=km d x (y+1):=by
 have f:=(cH.1 a).1
 have b: (d.take y).length=y:=by simp;omega
 unfold km;have:=xr (d.take y) B (x.drop y) (λc=>by have:=a_ List.length c;simp at this;omega)
 rw[b] at this
 rw[this,ls,List.take_succ,a];simp
def Wn(a:d.length=x.length){y:Nat}(b:d[y]? = some B)(c:x[y]? = some B):km d x (y+1)=km d x y:=by
 rw[<-Er a b,sc<|Eq a c]
def K5(h:B∈km d x f):B∈d\/B∈x:=by
 rcases dq.1 h with h | h
 exact .inl<|hz h;exact .inr<|kv h
def o3 :aL:=if F.r=0\/F.half=3 then hr F.at_.aq F.at_.aR else F
def mw :List aL:=(b7 j).map o3
def mg.fP(a:mg q)(b:q.half=1\/q.half=2):q.r≠0:=by
 rcases a.k with ⟨_,_,a⟩ | ⟨_,⟨a,_⟩ | ⟨_,c⟩⟩
 omega
 omega
 exact Eo aa
def K6{c:aL}(a:mg c)(b:c.half=1\/c.half=2):o3 c=c:=ai (by have:=a.fP b;omega)
def AX(a:q.half=0\/q.half=3): (o3 q).half=0:=by
 unfold o3;split
 rfl
 omega
def Wo(b:mg q):vZ (o3 q):=by
 unfold o3;split
 exact⟨Is b.a.back,.inl rfl⟩;rename_i c;refine⟨b.a,.inr ?_⟩;rcases b.k with ⟨d,_⟩ | e
 exact absurd (.inl d) c;exact e
def Wp :fA j->dU (mw j):=by
 unfold mw;fun_induction b7 j with
 | case1=>exact λ_=> .nil
 | case2 b=>
  intro _;refine .one ?_ .nil;split
  exact AX bR;exact AX<|.inl rfl
 | case3 b c j g d=>exact λa=> .one (AX<|.inl g)<|d λe f=>a e<|sE _ f
 | case4 b c j g h d=>
  intro a;obtain⟨i,k,l⟩:=(vp b c).1 h;have m:c= { b with half:=2 }:=by rw[l,<-k]
  have n:=K6 (a b au)<|.inl i
  have o:=K6 (a c au)<|.inr k
  rw[ku,ku,n,o,m];exact .two i<|d λe f=>a e (by simp[f])
 | case5 b c j g h d=>exact λa=> .one (AX<|.inl rfl)<|d λe f=>a e<|sE _ f
def Wq(a:fA b):q7 (mw b):=⟨Wp b a,λf c=>by
 obtain⟨d,e,rfl⟩:=ei.1 c;exact Wo<|vl a d e⟩
def K7 : (mw j).length=j.length:=by unfold mw;rw[c8,hq]
def Es: ∀n,dU (List.replicate n eo)
 | 0=> .nil
 | n+1=> .one rfl<|Es n
def Et : ∀{n:Nat},(∀a,a<n->b[f+a]? = some q)->b.take (f+n)=b.take f++List.replicate n q
 | 0,_=>by simp
 | n+1,c=>by
  rw[show f+(n+1)=(f+n)+1 by omega,xt<|c n aa,Et λa d=>c a aa,ec,<-List.replicate_succ']
def Wr(a:K+f<=z): (List.replicate z eo).drop K=List.replicate f eo++(List.replicate z eo).drop (K+f):=by
 rw[List.drop_replicate,List.drop_replicate,List.replicate_append_replicate];congr 1;omega
def K8{x:Nat}:Cut (List.replicate f eo) x:=λb a=>by
 have:=cR a
 rw[(uk.1 this).2];decide
def Ws{x:Nat}(c:Cut b x)(d:x+f<=b.length)(e: ∀a,a<f->b[x+a]? = some eo)(g:Cut b (x+f)):fD b (List.replicate b.length eo) (x+f)=fD b (List.replicate b.length eo) x:=by
 rw[fD,fD,nj c,nj g];exact Wl (Es _) (Et e) (Wr d) K8 K8
def hv(b:Int):Prop:= ∃a,j[o]? = some a/\a.half=b
def K9{x:Nat}(a: ¬hv b x 2):Cut b x:=λc d e=>a ⟨c,d,e⟩
def dU.left(c:dU b)(d:hv b (f+1) 2):hv b f 1:=by
 obtain⟨e,a,g⟩:=d;have i:=(cH.1 a).1
 refine⟨b[f]'aa,bD _,Classical.byContradiction λh=>?_⟩;exact c.cut (bD<|show f<b.length by omega) h e a g
def AY{x:Nat}(c:hv b x 1):Cut b x:=λe d f=>by
 obtain⟨g,a,h⟩:=c;rw[d] at a;cases a;omega
def Wt{a:Nat}(d: ∀c,c<a->b[c]? = u[c]?):b.take a=u.take a:=by
 apply jY
 intro c;rw[iu,iu];split
 exact d c bR;rfl
def Wu{c:List aL}{b:Nat}(d: ∀a,b<=a->c[a]? = u[a]?):c.drop b=u.drop b:=by
 apply jY
 intro a;rw[ja,ja];exact d _ aa
def Wv(i:dU b)(j:dU u)(k: ∀d,d<f->b[d]? = u[d]?){a:Nat}(n: (0<f/\(hv u f 2\/hv b f 2))/\a=f - 1\/ ¬(0<f/\(hv u f 2\/hv b f 2))/\a=f):b.take a=u.take a/\Cut b a/\Cut u a:=by
 refine⟨Wt λd o=>k d aa,?_⟩;rcases n with ⟨⟨ar,e⟩,rfl⟩ | ⟨l,rfl⟩
 obtain⟨g,rfl⟩ : ∃g,f=g+1:=⟨f - 1,aa⟩;have m:=k g aa
 show Cut b g/\Cut u g
 rcases e with e | e
 have c:=j.left e
 exact⟨AY<|by unfold hv at c ⊢;rw[m];exact c,AY c⟩;have c:=i.left e
 exact⟨AY c,AY<|by unfold hv at c ⊢;rw[<-m];exact c⟩;rcases hV a with rfl | ar
 exact⟨i.xZ,j.xZ⟩;exact⟨K9 λh=>l ⟨ar,.inr h⟩,K9 λh=>l ⟨ar,.inl h⟩⟩
def Ww(g:dU b)(h:dU u)(v:b.length=u.length)(s:1<=f/\f<=b.length)(m: ∀e,f<=e->b[e]? = u[e]?)(n: (f<b.length/\(hv u (f - 1) 1\/hv b (f - 1) 1))/\z=f+1\/ ¬(f<b.length/\(hv u (f - 1) 1\/hv b (f - 1) 1))/\z=f):b.drop z=u.drop z/\Cut b z/\Cut u z/\z<=b.length:=by
 refine⟨Wu λe w=>m e aa,?_⟩;obtain⟨d,rfl⟩ : ∃d,f=d+1:=⟨f - 1,aa⟩;rw[un] at n
 rcases n with ⟨⟨i,t⟩,rfl⟩ | ⟨o,rfl⟩
 have p:=m (d+1)<|cC _
 rcases t with ⟨j,a,c⟩ | ⟨j,a,c⟩
 obtain⟨k,l⟩:=h.pair a c;exact⟨g.cut (p.trans k)<|show (2 :Int)≠1 by decide,l,aa⟩;obtain⟨k,l⟩:=g.pair a c;exact⟨l,h.cut (p.symm.trans k)<|show (2 :Int)≠1 by decide,aa⟩;by_cases i:d+1<b.length
 have q:=bD (show d<b.length by omega)
 have r:=bD (show d<u.length by omega)
 exact⟨g.cut q λc=>o ⟨i,.inr ⟨_,q,c⟩⟩,h.cut r λc=>o ⟨i,.inl ⟨_,r,c⟩⟩,aa⟩;exact⟨λj a=>(by rw[hK aa] at a;cases a),λj a=>(by rw[hK aa] at a;cases a),s.2⟩
def Wx{r:Int}(b:cO r=0):128<=r:=by
 obtain⟨c,d,_⟩:=Ei (r:=r) aa;refine Classical.byContradiction λe=>?_
 obtain⟨m,rfl⟩ : ∃m:Nat,r=m:=⟨r.toNat,aa⟩;have: ∀a:Nat,a<127->cO a≠0:=by decide+kernel
 exact this m aa b
def K_: ∀(c:List Int)(a:d4)(b:List Int),(∀r∈c,cO r=0)->a.eH=0->a.fN=0-> ∃d:d4,d.eH=0/\d.fN=0/\(c.flatMap dk).foldlM jQ (a,b)=some (d,b++c)
 | [],a,b,_,e,f=>⟨a,e,f,by rw[eZ];rfl⟩
 | r::c,a,b,g,e,f=>by
  have i:=g r au
  have u:=Wx i
  obtain⟨_,_,v,w⟩:=Ei (r:=r) aa;obtain⟨m,rfl⟩ : ∃m:Nat,r=m:=⟨r.toNat,aa⟩;obtain⟨h,j,k,l⟩:=KJ (KK (m:=m) aa aa) aa aa aa a e b;obtain⟨n,o,p,q⟩:=K_ c h (b++[(m:Int)]) (λs t=>g s<|by simp[t]) j k;refine⟨n,o,p,?_⟩;rw[nA,rk,l];show (c.flatMap dk).foldlM jQ (h,b++[(m:Int)])=_
  rw[q,ec];rfl
