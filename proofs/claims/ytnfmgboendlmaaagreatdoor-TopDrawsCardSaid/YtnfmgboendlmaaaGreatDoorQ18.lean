/- part 18 of the proof -/
import Derived.Test.YtnfmgboendlmaaaGreatDoorQ17
set_option linter.all false
namespace Go.Proofs.YtnfmgboendlmaaaGreatDoor.Mq
open RowKit Tryz
variable {K L e j x:Int}{n:List UInt8}{B d:List aL}{C:List aL->List aL}{o:List bq}{A h:Nat}{O:Nat × Nat}{W:Type}{g:a1}{M m:aL}{i:b8}{U:b8->Nat->Nat->b8}{G:b8->b8}{R:bq->bq}{q:dH}(y:List aL)(D:World)(F:b8)(I:aL)(N:BitVec 64)(P:List Int)(V:hN)(X:a1)(f:Int)(w:List UInt8)(u:Nat)(z:List bq)(J:Nat)(T:Bool)(t:Int)(E:dH)(H:Int)
abbrev e6:=dH
abbrev r6(a:e6):Value:= .agg [ad a.cM,ad a.fn,ad a.aq,ad a.aR,ad a.bB].toArray
abbrev qL :Value:= .agg [ad f,ad t].toArray
namespace bj
def ee :Bool:=decide<|(f=0/\t=0)\/(f=1/\0<=t/\t<256)\/(f=2/\0<=t/\t<16777216)
def iF :Bool:=decide<|u/J%2=1
def ez(a:e6):Bool:=ee a.cM a.fn && (ee a.aq a.aR && decide (0<=a.bB/\a.bB<1024/\ ¬(iF a.bB.toNat 8=true/\iF a.bB.toNat 256=true)))
def Il :ay 236 [qL f t] D (λe g=>e= .returned (.bool<|ee f t)/\Ext [] D g):=by
 refine ba func236 ntmps236 ?_;refine ap ?_;intro l m n;refine (aE) (λh=>b6 ?_) λh=>?_;intro b a;refine⟨?_,a.ext⟩;congr 2
 simp only[ee,iK];omega
 refine (aE) (λi=>aH ?_) λi=>?_;refine bl 15 rfl (λc=>?_) λc=>?_;have j:=bg c
 refine cZ ?_;intro b a;refine⟨?_,a.ext⟩;congr 2
 simp only[ee,iK];omega
 have j:=bm c
 refine bP ?_;intro b a;refine⟨?_,a.ext⟩;congr 2
 simp only[ee];rw[eq_comm,fZ];omega
 refine (aE) (λc=>aH ?_) λc=>be ?_;refine bl 25 rfl (λd=>?_) λd=>?_;have k:=bg d
 refine cZ ?_;intro b a;refine⟨?_,a.ext⟩;congr 2
 simp only[ee,iK];omega
 have k:=bm d
 refine bP ?_;intro b a;refine⟨?_,a.ext⟩;congr 2
 simp only[ee];rw[eq_comm,fZ];omega
 intro b a;refine⟨?_,a.ext⟩;congr 2
 simp only[ee];rw[eq_comm,fZ];omega
end bj
def tw{z:Int}(a:0<=z)(b:z<9223372036854775808):IntKind.i64.wrap z=z:=by simp[IntKind.wrap,IntKind.bits,IntKind.signed];omega
namespace bj
def Ru(a:h<18446744073709551616):IntKind.i64.wrap (h:Int)=0↔h=0:=by
 simp[IntKind.wrap,IntKind.bits,IntKind.signed];omega
def Rv : (N &&& ~~~ (1023#64)).toNat=0↔N.toNat<1024:=by
 constructor
 intro a;have b:N &&& ~~~ (1023#64)=0#64:=BitVec.eq_of_toNat_eq (by rw[a];rfl)
 refine Nat.lt_pow_two_of_testBit (n:=10) N.toNat λi c=>?_
 by_cases e:i<64
 have d: (N &&& ~~~ (1023#64)).getLsbD i=(0#64).getLsbD i:=by rw[b]
 have f: (1023#64).getLsbD i=false:=by
  rw[BitVec.getLsbD_ofNat,wy<|qa (by decide:1023<2 ^ 10)<|sK aW c];simp
 rw[BitVec.getLsbD_and,BitVec.getLsbD_not,f,bI e,BitVec.getLsbD_zero] at d
 exact (rh _).symm.trans d;exact wy<|qa N.isLt<|sK aW aa;intro a;have b:N &&& ~~~ (1023#64)=0#64:=by
  refine BitVec.eq_of_getLsbD_eq λi c=>?_
  rw[BitVec.getLsbD_and,BitVec.getLsbD_not];by_cases g:i<10
  have: (1023#64).getLsbD i=true:=by
   rw[BitVec.getLsbD_ofNat];have: ∀i,i<10->(decide (i<64) && Nat.testBit 1023 i)=true:=by decide
   exact this i g
  simp[this]
  have:N.getLsbD i=false:=wy<|qa (show N.toNat<2 ^ 10 from a)<|sK aW aa
  simp[this]
 rw[b];rfl
def Rw(a: -9223372036854775808<=e/\e<=9223372036854775807):
 IntKind.i64.wrap ((BitVec.ofInt IntKind.i64.bits e &&& ~~~ BitVec.ofInt IntKind.i64.bits 1023).toNat:Int)=0↔0<=e/\e<1024:=by
 rw[Ru (BitVec.isLt _)];refine Iff.trans (Rv<|BitVec.ofInt 64 e) ?_;rw[BitVec.toNat_ofInt];omega
def Rx: ∀a,a<1024->decide (((a &&& 264 :Nat):Int)≠264)= !(iF a 8 && iF a 256):=by decide+kernel
def Ry(a:0<=e/\e<1024):IntKind.i64.wrap ((BitVec.ofInt IntKind.i64.bits e &&& BitVec.ofInt IntKind.i64.bits 264).toNat:Int)=((e.toNat &&& 264 :Nat):Int):=
 and_eq (m:=e.toNat) (n:=264) aa rfl (show e.toNat<18446744073709551616 by omega) aW (tw aa (by
  have:=Nat.and_le_right (n:=e.toNat) (m:=264)
  omega))
def Rz(k:fJ D)(l:Nat->Prop)(e:Option Addr)(m f:Nat)(b:List Int)(i:Rd ct D l e m f b)(u:m<=1000)(j: ∀x∈b,-9223372036854775808<=x/\x<=9223372036854775807):
 ay 238 [.slice e m f] D (λn c=>n= .returned (bU<|fK b)/\Ext [] D c):=by
 have v:=i.len
 have w:=CO b j
 refine ba func238 ntmps238 ?_;refine b6 ?_;refine lz 9 1<|aU ?_;refine cd (ι:=Nat × Value) (λa=>[(3,a.2),(6,.slice e m f),(7,ad (m:Int)),(8,ad (a.1 :Int))]) (λa=>ag D [] [own 9 1 a.2 a.1 (lI.all<|(b.take a.1).map Lib.itoa)]) (λa=>a.1<=m) (λa=>m - a.1) ?_ ?_;exact λD g=>⟨(0,.slice none 0 0),b4 _,(da rfl rfl rfl rfl),g⟩
 rintro⟨a,y⟩ o;dsimp only at o ⊢
 refine (aE) (λp=>?_) λp=>?_;obtain⟨x,h⟩ : ∃x,b[a]? = some x:=⟨b[a]'aa,bD _⟩;have q:=j x<|cR h
 obtain⟨z,r,_,s⟩:=i.at_ h;refine aH ?_;refine bE (q:=a) eE rfl rfl rfl r aa aa<|bb bY rfl rfl (λc d=>d.ch (s 0 _ rfl) au)<|aH ?_;refine bd (λc d=>qJ c (k.ext d.ext) x q)<|av ?_;intro A B C;refine hW Gk rfl rfl rfl bx (λ_=>by exact cJ) rfl (jE rfl) (by simp only[maxLen];omega) aa λt E=>?_;refine aY ?_;refine bv (a+1,t) bL bL (da rfl rfl rfl rfl) λc d=>?_;dsimp only;rw[hA,h,rp,gF,ku,rl,b1.iP];exact d;obtain rfl:a=m:=by omega
 rw[eT aa];refine aY ?_;refine cU (hargs:=rfl) (Ii · _ _ _ (b.map Lib.itoa) [59] · (by simp;omega) aa (by show (fK b).length<=_;omega)) ?_;refine aI ?_;exact λF g=>⟨rfl,g.ext⟩
def ii :List Int:=if f=1 then [H,5,t] else if f=2 then [H,2,t/65536,t/256%256,t%256] else []
def Im(b:0<=e/\e<16777216):IntKind.i64.wrap ((BitVec.ofInt IntKind.i64.bits e &&& BitVec.ofInt IntKind.i64.bits 255).toNat:Int)=e%256:=
 and_eq (m:=e.toNat) (n:=255) aa rfl (show e.toNat<18446744073709551616 by omega) aW (by
  have a:e.toNat &&& 255=e.toNat%256:=up e.toNat 8
  rw[a,tw aa aa];omega)
def In(h:0<=t/\t<16777216):ay 237 [qL f t,ad H] D (jC ct D<|ii f t H):=by
 refine ba func237 ntmps237 ?_;refine ap ?_;intro i j k;refine (aE) (λb=>aH ?_) λb=>?_;intro l m n;refine aU ?_;intro g a;rw[ii,aB b];have c:=Rd.iR (E:=ct) (L:=[H,5,t]) a Has.head rfl (by show 3<=maxLen;decide)
 exact⟨_,_,_,rfl,a.ext,c.d8 λf d=>by rw[d];assumption⟩;refine (aE) (λe=>aI ?_) λe=>be ?_;refine rJ (r:=t/65536) rfl rfl rfl aW bo<|aA ?_;refine rJ (r:=t/256) rfl rfl rfl aW bo<|rI (r:=t/256%256) rfl rfl rfl (Im aa)<|aA ?_;refine rI (r:=t%256) rfl rfl rfl (Im h)<|av ?_;intro o p q;refine aU ?_;intro g a;rw[ii,ai b,aB e];have c:=Rd.iR (E:=ct) (L:=[H,2,t/65536,t/256%256,t%256]) a Has.head rfl (by show 5<=maxLen;decide)
 exact⟨_,_,_,rfl,a.ext,c.d8 λf d=>by rw[d];assumption⟩;intro g a;rw[ii,ai b,ai e];exact⟨none,0,0,rfl,a.ext,Rd.nil ct _ _ 0 aW none⟩
def ps:b1 (Nat × Nat):=⟨λa=>[ad (a.1 :Int),ad (a.2 :Int)],2,λ_=>rfl,λ_=>by repeat (first | exact aV.nil | refine aV.cons rfl ?_)⟩
def nV:List (Nat × Nat):=[(1,1),(2,2),(3,4),(4,8),(5,16),(7,32),(8,64),(9,128),(21,256),(53,512)]
def kS :List Int:=((nV.take J).filter λa=>iF u a.2).map λa=>(a.1 :Int)
def Io{k:Nat}(a:nV[k]? = some O):kS h (k+1)=if iF h O.2=true then kS h k++[(O.1 :Int)] else kS h k:=by
 unfold kS;rw[jH a,List.filter_append,gF];by_cases b:iF h O.2=true <;> simp[b]
def zX : (kS u J).length<=10:=by
 unfold kS;rw[c8];have b:=List.length_filter_le (λa=>iF u a.2)<|nV.take J
 have c: (nV.take J).length<=10:=by rw[dR];exact Nat.min_le_right _ _
 omega
def Ip: ∀b∈nV,∀a,a<1024->decide (((a &&& b.2 :Nat):Int)≠0)=iF a b.2:=by decide+kernel
def Iq: ∀a∈nV,a.2<1024/\a.1<1024:=by decide
def RA(a:h<1024)(b:A<1024):IntKind.i64.wrap ((BitVec.ofInt IntKind.i64.bits (h:Int) &&& BitVec.ofInt IntKind.i64.bits (A:Int)).toNat:Int)=((h &&& A:Nat):Int):=
 and_eq (m:=h) (n:=A) rfl rfl (show h<18446744073709551616 by omega) (show A<18446744073709551616 by omega) (tw (ri _) (by have:=uo (n:=h) (m:=A);omega))
def hP(a:e6):List Int:=0::kS a.bB.toNat 10++ii a.cM a.fn 38++ii a.aq a.aR 48
def lg(a:e6):List UInt8:=if ez a=true then fK (hP a) else []
def xl(a:ee e j=true):0<=j/\j<16777216:=by
 unfold ee at a
 have:=bg a
 omega
def vk : (ii f t H).length<=5:=by unfold ii;split <;> (try split) <;> simp
def Ir{aq aR:Int}{fl:Nat}(h:ee e j=true)(i:ee aq aR=true)(l:fl<1024): ∀b∈hP ⟨e,j,aq,aR,(fl:Int)⟩,-9223372036854775808<=b/\b<=9223372036854775807:=by
 have f: ∀g d c:Int,0<=d/\d<16777216->0<=c/\c<=100-> ∀b∈ii g d c,-9223372036854775808<=b/\b<=9223372036854775807:=by
  intro g d c m f b a;unfold ii at a
  split at a
  simp only[eJ,o9,or_false] at a
  omega
  split at a
  simp only[eJ,o9,or_false] at a
  omega
  cases a
 intro b a;rw[hP] at a
 rcases dq.1 a with a | a
 rcases dq.1 a with a | a
 rcases eJ.1 a with rfl | a
 omega
 obtain⟨c,k,rfl⟩:=ei.1 a;have:=(Iq c<|hz (List.mem_filter.1 k).1).2
 omega
 exact f _ _ _ (xl h) aa b a;exact f _ _ _ (xl i) aa b a
def qM :List UInt8:=P.flatMap λa=>59::Lib.itoa a
def r7(l:List Int):fK (f::l)=Lib.itoa f++qM l:=by
 induction l generalizing f with
 | nil=>simp[fK,qM,Lib.join,List.intercalate]
 | cons a l b=>
  have c:fK (f::a::l)=Lib.itoa f++59::fK (a::l):=by
   simp[fK,Lib.join,List.intercalate]
  rw[c,b a];simp[qM]
def RB:Lib.itoa 0=[48]:=by
 rw[show (0 :Int)=((0 :Nat):Int) from rfl,Lib.itoa_nonneg,qK aW];rfl
def tx(a:e6)(b c:Nat):List UInt8:=
 if w=[109] then [27,80,49,36,114]++(if ez a=true then lg a else [48])++[109,27,92]
 else if w=[114] then [27,80,49,36,114]++Lib.decDigits (b+1)++[59]++Lib.decDigits (c+1)++[114,27,92]
 else [27,80,48,36,114,27,92]
def zY(a:e6): (lg a).length<=500:=by
 by_cases b:ez a=true
 have c:=b
 obtain⟨d,e,aq,aR,f⟩:=a;simp only[ez,dK,eQ] at c
 obtain⟨g,h,i,j,_⟩:=c;obtain⟨fl,rfl⟩ : ∃m:Nat,f=m:=⟨f.toNat,aa⟩;have k:=CO _<|Ir g h (fl:=fl) aa
 have l:=zX fl 10
 have n:=vk d e 38
 have o:=vk aq aR 48
 have p: (hP ⟨d,e,aq,aR,(fl:Int)⟩).length<=21:=by
  simp only[hP,gw,b3,dV];omega
 rw[lg,aB b];omega
 rw[lg,ai b];simp
variable {Q:e6}
def CS(a:ez Q=true):lg Q≠[]:=by
 rw[lg,aB a,hP,nz,nz,r7,RB];simp
end bj
abbrev hc :Prop:=bj.ez E=true
def oT :Prop:=w.length<=32/\ ∃a:List Int,(∀b∈a,cO b=0)/\w=a.flatMap dk
structure mg (c:aL):Prop where
 a:hc c.at_
 k: (c.r=0/\c.more=[]/\(c.half=0\/c.half=3))\/(oT c.more/\(c.half=0/\cO c.r=1\/(c.half=1\/c.half=2)/\cO c.r=2))
def qN:cO 0= -1:=by decide
def mh:hc ⟨0,0,0,0,0⟩:=by decide
def hc.back(a:hc q):bj.ee q.aq q.aR=true:=by
 unfold hc bj.ez at a;simp only[dK] at a;exact a.2.1
def Is(a:bj.ee e j=true):hc ⟨0,0,e,j,0⟩:=by
 unfold hc bj.ez;simp only[dK];exact⟨aW,a,bI ⟨oj 0,aa,by simp[bj.iF]⟩⟩
def It(b:mg I):mg (hp I.at_):=⟨b.a,.inl ⟨rfl,rfl,.inl rfl⟩⟩
def zZ(a:bj.ee e j=true):mg (hr e j):=⟨Is a,.inl ⟨rfl,rfl,.inl rfl⟩⟩
def CT:bj.ee 0 0=true:=by decide
def CU:mg eo:=⟨mh,.inl ⟨rfl,rfl,.inl rfl⟩⟩
def Iu:mg rM:=⟨mh,.inl ⟨rfl,rfl,.inr rfl⟩⟩
def mg.small(a:mg m):m.more.length<=32:=by
 rcases a.k with ⟨_,a,_⟩ | ⟨a,_⟩
 rw[a];exact b4 _
 exact a.1
def CV:oT []:=⟨b4 _,[],by simp,rfl⟩
abbrev fA :Prop:= ∀a∈y,mg a
def vl(a:fA d):fA (b7 d):=zm It a
def CW{aq aR:Int}(e:bj.ee aq aR=true)(b:fA d):fA (f_ d h A aq aR):=by
 intro c a;unfold f_ at a
 simp only[dq] at a
 rcases a with (a | a) | a
 exact b c<|hz a;rw[k6 a];exact zZ e
 exact b c<|kv a
def Iv{e:Nat}(b:fA d):fA (l6 d h A e):=by
 intro c a;unfold l6 at a
 simp only[dq] at a
 rcases a with (a | a) | a
 exact b c<|hz a;exact b c<|kv<|hz a;exact b c<|kv a
def RC{aq aR:Int}(b:bj.ee aq aR=true)(a:fA d):fA (hE d e j aq aR):=by
 unfold hE;split
 exact CW b a;exact a
def RD{aq aR:Int}(b:bj.ee aq aR=true)(a:fA d):fA (insertC d e j aq aR):=by
 unfold insertC;split
 exact a;exact CW b<|Iv a
def RE{aq aR:Int}(b:bj.ee aq aR=true)(a:fA d):fA (kL d e j aq aR):=by
 unfold kL;split
 exact a;exact CW b<|Iv a
def xm(b:fA d)(c:mg m):fA (d.set h m):=λe a=>by
 rcases u4 a with a | rfl
 exact b e a;exact c
def RF(a:fA d):fA (mW d):=by
 unfold mW;split
 exact xm a Iu;exact a
def RG(a:hc q)(b:fA d):fA (gZ d e j q):=by
 unfold gZ;split
 exact b;rename_i f;split
 rename_i c;exact xm (xm b ⟨a,.inr ⟨CV,.inr ⟨.inr rfl,c⟩⟩⟩) ⟨a,.inr ⟨CV,.inr ⟨.inl rfl,c⟩⟩⟩;rename_i c;have:=w4 j
 exact xm b ⟨a,.inr ⟨CV,.inl ⟨rfl,by show cO j=1;omega⟩⟩⟩
def RH(b:oT n)(c:cO e=0)(d: (n++dk e).length<=32):oT (n++dk e):=by
 obtain⟨_,f,g,h⟩:=b;refine⟨d,f++[e],λi a=>?_,by rw[h];simp⟩;rcases dq.1 a with a | a
 exact g i a;rw[e0.1 a];exact c
def CX(g:oT n)(i: ∀b,d[h]? = some b->b.r≠0)(c:fA d):fA (gH d h n):=by
 unfold gH;split
 rename_i b e;have f:=c b<|cR e
 refine xm c ⟨f.a,?_⟩;rcases f.k with ⟨j,_⟩ | ⟨_,l⟩
 exact absurd j<|i b e;exact .inr ⟨g,l⟩;exact c
def Iw(a: (gH d h n)[A]? = some m): ∃b,d[A]? = some b/\b.r=m.r:=by
 unfold gH at a
 split at a
 rename_i b c;rw[nB] at a
 split at a
 rename_i e;subst e
 split at a
 cases a;exact⟨b,c,rfl⟩
 cases a
 exact⟨m,a,rfl⟩;exact⟨m,a,rfl⟩
def RI{h:List aL}:b7 h=h-> ∀(q:Nat)(c:aL),h[q]? = some c->(c.half=1-> ∀d:aL,h[q+1]? = some d->d.r=c.r)/\(c.half=2-> ∀d:aL,h[q - 1]? = some d->d.r=c.r):=by
 fun_induction b7 h with
 | case1=>intro _ q c b;simp at b
 | case2 c=>
  intro g q d b;obtain⟨rfl,rfl⟩ :q=0/\c=d:=by
   cases q with
   | zero=>simpa using b
   | succ q=>simp at b
  have a: (if c.half=0\/c.half=3 then c else hp c.at_)=c:=by simpa using g
  constructor
  intro m e o;simp at o
  intro m;rw[ai aa] at a
  rw[<-a] at m;simp[hp] at m
 | case3 c d l p i=>
  intro g q e b;have j:b7 (d::l)=d::l:=by simpa using g
  cases q with
  | zero=>
   have:c=e:=by simpa using b
   subst this;exact⟨λa=>by omega,λa=>by omega⟩
  | succ q=>
   have:=i j q e (by simpa using b)
   refine⟨λa x f=>this.1 a x<|by simpa using f,λa x f=>?_⟩;cases q with
   | zero=>
    have:=(zl j 0 e<|by simpa using b).2 a
    omega
   | succ q=>exact this.2 a x (by simpa using f)
 | case4 c d l p k i=>
  intro g q e b;have j:b7 l=l:=by simpa using g
  have s:d.r=c.r:=by
   simp only[j6,s_,dK,eQ] at k
   rw[k.2.2]
  have o:c.half=1/\d.half=2:=by
   simp only[j6,s_,dK,eQ] at k
   exact k.1
  match q,b with
  | 0,b=>
   have:c=e:=by simpa using b
   subst this;exact⟨λ_ x f=>by
    have:d=x:=by simpa using f
    subst this;exact s,λm=>by omega⟩
  | 1,b=>
   have:d=e:=by simpa using b
   subst this;exact⟨λa=>by omega,λ_ x f=>by
    have:c=x:=by simpa using f
    subst this;exact s.symm⟩
  | q+2,b=>
   have:=i j q e (by simpa using b)
   refine⟨λa x f=>this.1 a x<|by simpa using f,λa x f=>?_⟩;cases q with
   | zero=>
    have:=(zl j 0 e<|by simpa using b).2 a
    omega
   | succ q=>exact this.2 a x (by simpa using f)
 | case5 c d l p k i=>
  intro g q e b;have n:hp c.at_=c/\b7 (d::l)=d::l:=by simpa using g
  cases q with
  | zero=>
   have:c=e:=by simpa using b
   subst this;have t:c.half=0:=by rw[<-n.1];rfl
   exact⟨λa=>by omega,λa=>by omega⟩
  | succ q=>
   have:=i n.2 q e (by simpa using b)
   refine⟨λa x f=>this.1 a x<|by simpa using f,λa x f=>?_⟩;cases q with
   | zero=>
    have:=(zl n.2 0 e<|by simpa using b).2 a
    omega
   | succ q=>exact this.2 a x (by simpa using f)
def RJ{q:Int}(u:b7 d=d)(c:fA d):fA (eq d q j):=by
 unfold eq;split
 exact c;split
 exact c;rename_i f m;split
 exact c;rename_i s;split
 exact c;rename_i y;have h:f.r≠0:=λe=>s<|.inl e
 have v:cO j=0:=by
  have:=w4 j
  rcases Classical.em (cO j=0) with e | e
  exact e;exact absurd (.inr e) s
 have n:oT (f.more++dk j):=by
  refine RH ?_ v aa;rcases (c f<|cR m).k with ⟨e,_⟩ | ⟨e,_⟩
  exact absurd e h;exact e
 have t:=RI u _ f m
 have o: ∀i,fA i->(∀(g:Nat)(a:aL),i[g]? = some a-> ∃e:aL,d[g]? = some e/\e.r=a.r)->fA (gH i q.toNat<|f.more++dk j):=λi w x=>CX n (λa b=>by
  obtain⟨e,l,p⟩:=x _ a b;rw[m] at l;cases l;rw[<-p];exact h) w
 split
 rename_i l;exact o _ (CX n (λa b=>by rw[t.1 l a b];exact h) c) λg a b=>Iw b;split
 rename_i p;exact o _ (CX n (λa b=>by rw[t.2 p a b];exact h) c) λg a b=>Iw b;exact o _ c λg a b=>⟨a,b,rfl⟩
def ea :Prop:=(∀a∈F.cY,fA a.1)/\ ∀a∈F.jK,fA a.1
def Ix(f: ∀a:bq,fA a.1->fA (R a).1)(b:ea i):ea (l7 i e R):=by
 unfold l7;split
 refine⟨λa c=>?_,b.2⟩;rcases mem_modify c with c | ⟨d,g,rfl⟩
 exact b.1 a c;exact f d<|b.1 d g;exact b
def oU(a:ea i):ea (iS i f T):=Ix (λ_ a=>a) a
def tz(a:ea i):ea (gD i f t H):=a
def vm(b: ∀a,b7 a=a->fA a->fA (C a))(c:ea i):ea (l8 i e<|cX C):=Ix (λ_ d=>vl<|b _ (ta _)<|vl d) c
def Iy(a:hc q)(b:ea i):ea (th i e j x q):=vm (λ_ _=>RG a) b
def RK(a:ea i):ea (uZ i e j x):=vm (λ_=>RJ) a
def RL(a:ea i):ea (w7 i e):=vm (λ_ _=>RF) a
def Iz(a:bj.ee K L=true)(b:ea i):ea (u0 i e j x K L):=vm (λ_ _=>RD a) b
def RM(a:bj.ee K L=true)(b:ea i):ea (zn i e j x K L):=vm (λ_ _=>RE a) b
def xn(c:bj.ee K L=true)(b:ea i):ea (eraseP i e j x K L):=by
 have a:ea (l8 i e<|cX (hE · j x K L)):=vm (λ_ _=>RC c) b
 unfold eraseP;split
 dsimp only;split
 split
 exact oU _ _<|oU _ _ a;exact oU _ _ a;exact a;exact b
def z1(c:bj.ee e j=true)(b:ea i):ea (oN i h A e j):=⟨λd a=>by
 rcases Hn a with a | rfl
 exact b.1 d a;intro g f;rw[k6 f];exact zZ c,b.2⟩
def IA(b:ea i):ea (nO i):=⟨b.1,λc a=>by
 have d:fA (i.cY.headD ([],false)).1:=by
  cases e:i.cY with
  | nil=>intro h f;simp at f
  | cons g j=>exact b.1 g (by rw[e];simp)
 simp only[nO,pu] at a
 split at a
 exact b.2 c a;rcases dq.1 a with a | a
 split at a
 exact b.2 c<|List.mem_of_mem_tail a;exact b.2 c a;rw[e0.1 a];exact d⟩
def IB(a:bj.ee e j=true)(b:ea i):ea (tk i h A e j):=oU _ _<|oU _ _<|z1 a<|tz _ _ _<|tz _ _ _ b
def CY(a:bj.ee e j=true)(b:ea i):ea (pv i h A e j):=oU _ _<|oU _ _<|z1 a<|tz _ _ _<|tz _ _ _ b
def IC(a:bj.ee e j=true)(b:ea i):ea (mY i h A e j):=by
 unfold mY;split
 exact IB a b;dsimp only;split
 exact oU _ _<|z1 a<|tz _ _ _<|IA<|tz _ _ _ b;exact oU _ _<|z1 a<|IA<|tz _ _ _ b
def ID(a: ∀b,ea b->ea (G b))(c:ea i): ∀n,ea (iter G n i)
 | 0=>c
 | n+1=>a _<|ID a c n
def vn(c: ∀a d f,ea a->ea (U a d f))(b:ea i):ea (iE i e j x U):=by
 unfold iE;split
 exact ID (c · _ _ ·) b _;exact b
def RN(a:ea i):ea (rS i):=by
 unfold rS;split
 exact a;exact oU _ _ ⟨a.1,λc b=>by simp[gD] at b⟩
structure dd (s:a1):Prop where
 p:ea s.bz
 a:hc s.bk.at_
 v:hc s.hb.at_
def dd.on(b:dd g)(c:ea g.bz->ea (G g.bz)):dd (hi g G):=⟨c b.p,b.a,b.v⟩
def dd.b(c:dd g):bj.ee (aq g) (aR g)=true:=c.a.back
def tA(x:Int)(b:dd g):dd { g with x:=x }:=⟨b.p,b.a,b.v⟩
def RO(b:dd g):dd (vb g):=⟨b.p,b.a,b.v⟩
def CZ(b:dd g):dd (xi g f t):=⟨b.p,b.a,b.v⟩
def xo(c:dd g):dd (jm g).1:=by
 unfold jm;dsimp only
 split
 exact⟨vn (λe f h d=>IC c.b d) c.p,c.a,c.v⟩;split
 exact⟨c.p,c.a,c.v⟩;exact⟨c.p,c.a,c.v⟩
def RP(c:dd g):dd (oS g):=by
 unfold oS;dsimp only
 split
 exact⟨vn (λe f h d=>CY c.b d) c.p,c.a,c.v⟩;split
 exact⟨c.p,c.a,c.v⟩;exact⟨c.p,c.a,c.v⟩
def RQ(b:dd g):dd (kb g f):=by
 rw[rY];split
 exact b;split
 exact⟨b.p,b.a,b.v⟩;have d:dd (nS g):=by
  unfold nS;split
  exact b.on RL;exact b
 have c:=tA 0<|xo d
 unfold pA;split
 exact c.on<|oU _ _;exact c
def IE(e:dd g):dd (rX g f):=by
 rw[to];have h:dd (hO g f):=by
  unfold hO;split
  exact e.on RK;exact e
 split
 exact h;have d:=RQ (cO f) h
 have c:dd (kd (kb (hO g f)<|cO f)<|cO f):=by
  unfold kd;split
  exact d.on<|Iz d.b;exact d
 exact⟨Iy c.a c.p,c.a,c.v⟩
def IF(a:Int)(b:dd g): ∀n,dd (tr g a n)
 | 0=>b
 | n+1=>IE a<|IF a b n
def RR(a:dd g):dd (ts g f):=by
 unfold ts;split
 exact a;exact IF _ a _
def RS(b:hc V.at_)(a:dd g):dd { g with bk:=V }:=⟨a.p,b,a.v⟩
def RT(b:dd g):dd (ke g f):=IE _<|RS _ b.a b
def xp(b:dd g):dd (me g f t):=by
 unfold me;split <;> exact⟨b.p,b.a,b.v⟩
def RU(b:dd g):dd (qF g f t):=by
 unfold qF;split
 exact xp _ _ ⟨b.p,b.a,b.v⟩;exact b
def RV(a:dd g):dd (CF g f):=(tA (gb g) a).on<|Iz a.b
def RW(a:dd g):dd (CG g f):=(tA (gb g) a).on<|RM a.b
def RX(a:dd g):dd (qD g f):=(tA (gb g) a).on<|xn a.b
def RY(c:dd g):dd (tp g f):=by
 unfold tp;split
 exact⟨vn (λe h i d=>CY c.b d) c.p,c.a,c.v⟩;exact c
def RZ(c:dd g):dd (tq g f):=by
 unfold tq;split
 exact⟨vn (λe h i d=>IB c.b d) c.p,c.a,c.v⟩;exact c
def R0(c:dd g):dd (rZ g f):=by
 unfold rZ;split
 exact⟨vn (λe h i d=>IC c.b d) c.p,c.a,c.v⟩;split
 exact⟨vn (λe h i d=>CY c.b d) c.p,c.a,c.v⟩;exact c
def R1(a:dd g):dd (H9 g f):=a.on<|xn a.b
def IG(a:Int)(b:dd g): ∀n,dd (vf g a n)
 | 0=>b
 | n+1=>R1 _<|IG a b n
def z6(a:dd g):dd (vg g f t):=IG f a _
def C0(a:dd g):dd (mf g f):=by
 unfold mf;repeat' split
 exact a.on<|xn a.b;exact a.on<|xn a.b;exact z6 _ _ a;exact a
def R2(a:dd g):dd (pB g f):=by
 unfold pB;repeat' split
 exact z6 _ _<|C0 _ a;exact z6 _ _<|C0 _ a;exact z6 _ _ a;exact a.on RN;exact a
def R3(b:dd g):dd (r2 g f):=by
 unfold r2;repeat' split
 exact b;exact⟨b.p,b.a,b.v⟩;exact⟨b.p,b.a,b.v⟩
def R4(b:dd g):dd (CI g):=⟨b.p,b.a,b.a⟩
def R5(a:dd g):dd (zT g):=by
 refine⟨a.p,?_,a.v⟩;show hc (r4 g).1.at_
 unfold r4;split
 exact a.v;exact mh
def R6(a:dd g):dd (CN g):=⟨a.p,mh,mh⟩
def vo(a:m.half=0)(Z:List aL):b7 (m::Z)=m::b7 Z:=by
 cases Z with
 | nil=>simp[b7,a]
 | cons b c=>simp[b7,a]
def C1(a:m.half≠0)(b:j6 m M=true)(Z:List aL):b7 (m::M::Z)=m::M::b7 Z:=by
 simp[b7,a,b]
def vp(b:aL):j6 I b=true↔I.half=1/\b.half=2/\I= { b with half:=1 }:=by
 simp only[j6,s_,dK,eQ];constructor
 exact λa=>⟨a.1.1,a.1.2,a.2.2⟩
 exact λa=>⟨⟨a.1,a.2.1⟩,a.1,a.2.2⟩
def C2: ¬((2 :Int)=1):=by decide
inductive dU:List aL->Prop
 | nil:dU []
 | one {c l}:c.half=0->dU l->dU (c::l)
 | two {c l}:c.half=1->dU l->dU (c::{ c with half:=2 }::l)
def dU.xq{l:List aL}(c:dU l):b7 l=l:=by
 induction c with
 | nil=>rfl
 | one d _ a=>rw[vo d,a]
 | two b _ a=>rw[C1 (by rw[b];decide) ((vp _ _).2 ⟨b,rfl,by cases ‹aL›;simp_all⟩),a]
def Cut :Prop:= ∀a,y[u]? = some a->a.half≠2
def dU.vq(g:dU d): ∀{x:Nat},Cut d x-> ∀Z,b7 (d.take x++Z)=d.take x++b7 Z:=by
 induction g with
 | nil=>intro x _ Z;simp
 | one h _ c=>
  intro x b Z;cases x with
  | zero=>simp
  | succ x=>simp only[List.take_succ_cons,nz];rw[vo h,c λa e=>b a<|by simpa using e]
 | two f _ c=>
  rename_i a d _;intro x b Z;match x with
  | 0=>simp
  | 1=>exact absurd rfl<|b { a with half:=2 } au
  | x+2=>
   simp only[List.take_succ_cons,nz];rw[C1 (by rw[f];decide) ((vp _ _).2 ⟨f,rfl,by rw[<-f]⟩),c λa e=>b a<|by simpa using e]
def dU.vr(m:dU d): ∀{x:Nat},(b7<|d.drop x).drop 1=d.drop (x+1)/\(Cut d x->b7 (d.drop x)=d.drop x):=by
 induction m with
 | nil=>intro x;simp[b7]
 | one g f b=>
  intro x;cases x with
  | zero=>simp only[ol];rw[vo g,f.xq];simp
  | succ x=>exact⟨by simpa using b.1,λc=>by simpa using b.2 λa h=>c a<|by simpa using h⟩
 | two i f b=>
  rename_i a d;intro x;match x with
  | 0=>
   simp only[ol];rw[C1 (by rw[i];decide) ((vp _ _).2 ⟨i,rfl,by rw[<-i]⟩),f.xq];simp
  | 1=>
   refine⟨?_,λc=>absurd rfl<|c { a with half:=2 } au⟩;show (b7<|{ a with half:=2 }::d).drop 1=d
   cases f with
   | nil=>simp[b7]
   | one g j=>
    rename_i e n;have k:j6 { a with half:=2 } e=false:=by
     rcases l:j6 { a with half:=2 } e with _ | _
     rfl
     exact absurd ((vp _ _).1 l).1 C2
    simp only[b7,k];rw[vo g,j.xq];simp
   | two o j=>
    rename_i e n;have k:j6 { a with half:=2 } e=false:=by
     rcases l:j6 { a with half:=2 } e with _ | _
     rfl
     exact absurd ((vp _ _).1 l).1 C2
    have:=(dU.two o j).xq
    simp only[b7,k] at this ⊢
    simp at this ⊢
    exact this
  | x+2=>exact⟨by simpa using b.1,λc=>by simpa using b.2 λa h=>c a<|by simpa using h⟩
def dU.cut(j:dU d): ∀{x:Nat} {e:aL},d[x]? = some e->e.half≠1->Cut d (x+1):=by
 induction j with
 | nil=>intro x e b;simp at b
 | one l g h=>
  intro x e b f i a;cases x with
  | zero=>
   have a:_:=a
   cases g with
   | nil=>simp at a
   | one c _=>simp at a;rw[<-a,c];decide
   | two c _=>simp at a;rw[<-a,c];decide
  | succ x=>exact h (by simpa using b) f i (by simpa using a)
 | two k g h=>
  rename_i m d;intro x e b f i a;match x with
  | 0=>simp at b;rw[<-b] at f;exact absurd k f
  | 1=>
   cases g with
   | nil=>simp at a
   | one c _=>simp at a;rw[<-a,c];decide
   | two c _=>simp at a;rw[<-a,c];decide
  | x+2=>exact h (by simpa using b) f i (by simpa using a)
def dU.pair(j:dU d): ∀{x:Nat} {e:aL},d[x]? = some e->e.half=1->d[x+1]? = some { e with half:=2 }/\Cut d (x+2):=by
 induction j with
 | nil=>intro x e a;simp at a
 | one k i g=>
  intro x e a c;cases x with
  | zero=>simp at a;rw[<-a,k] at c;exact absurd c aW
  | succ x=>
   have:=g (by simpa using a) c
   exact⟨by simpa using this.1,λf b=>this.2 f<|by simpa using b⟩
 | two l i g=>
  rename_i m d;intro x e a c;match x with
  | 0=>
   simp at a;subst a
   refine⟨by simp,λf b=>?_⟩;cases i with
   | nil=>simp at b
   | one h _=>simp at b;rw[<-b,h];decide
   | two h _=>simp at b;rw[<-b,h];decide
  | 1=>simp at a;rw[<-a] at c;exact absurd c C2
  | x+2=>
   have:=g (by simpa using a) c
   exact⟨by simpa using this.1,λf b=>this.2 f<|by simpa using b⟩
def dU.half(e:dU d): ∀a∈d,a.half=0\/a.half=1\/a.half=2:=by
 induction e with
 | nil=>simp
 | one f _ b=>
  intro c aj;rcases eJ.1 aj with rfl | aj
  exact .inl f;exact b c aj
 | two g _ b=>
  intro c aj;rcases eJ.1 aj with rfl | aj
  exact .inr<|.inl g;rcases eJ.1 aj with rfl | aj
  exact .inr<|.inr rfl;exact b c aj
def fB(b:List aL)(a:Nat):List aL:=y.take a++b7 (b.drop a)
def C3(a:dU d){x:Nat}(b:Cut d x):b7 (fB d B x)=fB d B x:=by
 rw[fB,a.vq b,ta]
def C4(b:d.length=B.length)(a:Nat): (fB d B a).length=d.length:=by
 simp[fB,hq];omega
def IH{T:List aL}(a:dU d)(b:T.length=d.length){x n:Nat}(c:1<=n)(e:x+n<=T.length): (b7<|d.drop x).drop n=d.drop (x+n):=by
 obtain⟨k,rfl⟩ : ∃k,n=1+k:=⟨n - 1,aa⟩;rw[<-ls,a.vr.1,ls,Nat.add_assoc]
def xr(b:List W)(c:W)(a:List W)(d:a≠[]): (b++a).set b.length c=b++c::a.drop 1:=by
 cases a with
 | nil=>exact absurd rfl d
 | cons e f=>simp
def vt(a:d[h]? = some m): (d.take h).length=h/\h<d.length:=by
 have:=(cH.1 a).1
 simp;omega
def xt(a:d[h]? = some m):d.take (h+1)=d.take h++[m]:=by
 rw[hA,a];rfl
def R7(b:d.length=B.length)(c:h<d.length):b7 (B.drop h)≠[]:=λa=>by
 have:=hq<|B.drop h;rw[a] at this;simp at this;omega
def II(Z:List aL):b7 (⟨f,w,1,E⟩::⟨f,w,2,E⟩::Z)=⟨f,w,1,E⟩::⟨f,w,2,E⟩::b7 Z:=by simp[b7,j6,s_]
def R8(a:dU d)(i:dU B)(b:d.length=B.length){x:Nat}(c:d[x]? = some m)(j:m.half=0)(e:cO m.r=1):
 cX (gZ · (x:Int) m.r m.at_) (fB d B x)=d.take x++⟨m.r,[],0,m.at_⟩::b7 (B.drop<|x+1):=by
 have f:Cut d x:=λp g=>by rw[c] at g;cases g;rw[j];decide
 obtain⟨k,l⟩:=vt c;have n:=C4 b x
 unfold cX;rw[C3 a f];have o:gZ (fB d B x) (x:Int) m.r m.at_=(fB d B x).set x ⟨m.r,[],0,m.at_⟩:=by
  unfold gZ;rw[ai (by rw[n,e];omega),ai<|by rw[e];decide];rfl
 have h:=xr (d.take x) ⟨m.r,[],0,m.at_⟩ (b7<|B.drop x)<|R7 b l
 rw[k] at h
 show b7 (gZ (fB d B x) (x:Int) m.r m.at_)=_
 rw[o,fB,h,i.vr.1,a.vq f,vo rfl]
def R9(f:dU d)(q:dU B)(h:d.length=B.length){x:Nat}(g:d[x]? = some m)(i:m.half=1)(j:cO m.r=2):
 cX (gZ · (x:Int) m.r m.at_) (fB d B x)=d.take x++⟨m.r,[],1,m.at_⟩::⟨m.r,[],2,m.at_⟩::b7 (B.drop<|x+2):=by
 have k:Cut d x:=λv c=>by rw[g] at c;cases c;rw[i];decide
 obtain⟨l,w⟩:=vt g;have y:=(vt (f.pair g i).1).2
 have s:=C4 h x
 unfold cX;rw[C3 f k];have t:gZ (fB d B x) (x:Int) m.r m.at_=((fB d B x).set (x+1) ⟨m.r,[],2,m.at_⟩).set x ⟨m.r,[],1,m.at_⟩:=by
  unfold gZ;rw[ai (by rw[s,j];omega),aB j];rfl
 obtain⟨a,e,Z,n⟩ : ∃a e Z,b7 (B.drop x)=a::e::Z:=by
  have b:=hq<|B.drop x
  rw[fL] at b
  match o:b7 (B.drop x) with
  | []=>rw[o] at b;simp at b;omega
  | [_]=>rw[o] at b;simp at b;omega
  | a::e::Z=>exact⟨a,e,Z,rfl⟩
 have c:Z=B.drop (x+2):=by
  have:=IH (T:=d) q h (x:=x) (n:=2) aa aa
  rw[n] at this;simpa using this
 have u: (fB d B x).set (x+1) ⟨m.r,[],2,m.at_⟩=d.take x++a::⟨m.r,[],2,m.at_⟩::Z:=by
  rw[fB,n,rm _ _ aa,l,show x+1 - x=1 by omega];rfl
 have p:=xr (d.take x) ⟨m.r,[],1,m.at_⟩ (a::⟨m.r,[],2,m.at_⟩::Z) au
 rw[l] at p
 show b7 (gZ (fB d B x) (x:Int) m.r m.at_)=_
 rw[t,u,p,f.vq k];simp only[List.drop_succ_cons,ol];rw[II,c]
def R_(g:dU d)(i:Cut d h)(a: (d.take h).length=h){Z:List aL}(k:e≠0)(l:cO j=0)(r: (n++dk j).length<=32)(m:b7 Z=Z)(o:x=(h:Int)):
 cX (eq · x j) (d.take h++⟨e,n,0,q⟩::Z)=d.take h++⟨e,n++dk j,0,q⟩::Z:=by
 subst o;have b: ∀n,b7 (d.take h++⟨e,n,0,q⟩::Z)=d.take h++⟨e,n,0,q⟩::Z:=λn=>by
  rw[g.vq i,vo rfl,m]
 have c: (d.take h++(⟨e,n,0,q⟩ :aL)::Z)[h]? = some ⟨e,n,0,q⟩:=by
  rw[i_ aa,a];simp
 have p:eq (d.take h++⟨e,n,0,q⟩::Z) (h:Int) j=d.take h++⟨e,n++dk j,0,q⟩::Z:=by
  unfold eq;rw[ai (by simp only[b3,dV,a];omega),gw,c];simp only;rw[ai (by simp[k,l]),ai aa,ai aW,ai aW];unfold gH;rw[c];have f:=xr (d.take h) (uT ⟨e,n,0,q⟩<|n++dk j) (⟨e,n,0,q⟩::Z) au
  rw[a] at f
  simpa [uT] using f
 show b7 (eq (b7<|d.take h++⟨e,n,0,q⟩::Z) (h:Int) j)=_
 rw[b,p,b]
def Sa(f:dU d)(g:Cut d h)(a: (d.take h).length=h){Z:List aL}(i:e≠0)(k:cO j=0)(u: (n++dk j).length<=32)(l:b7 Z=Z)(m:x=(h:Int)+1):
 cX (eq · x j) (d.take h++⟨e,n,1,q⟩::⟨e,n,2,q⟩::Z)=d.take h++⟨e,n++dk j,1,q⟩::⟨e,n++dk j,2,q⟩::Z:=by
 subst m;have b: ∀n,b7 (d.take h++⟨e,n,1,q⟩::⟨e,n,2,q⟩::Z)=d.take h++⟨e,n,1,q⟩::⟨e,n,2,q⟩::Z:=λn=>by
  rw[f.vq g,II,l]
 have o: (d.take h++(⟨e,n,1,q⟩ :aL)::⟨e,n,2,q⟩::Z)[h+1]? = some ⟨e,n,2,q⟩:=by
  rw[i_ aa,a,show h+1 - h=1 by omega];simp
 have p: (d.take h++(⟨e,n,1,q⟩ :aL)::⟨e,n,2,q⟩::Z)[h]? = some ⟨e,n,1,q⟩:=by
  rw[i_ aa,a];simp
 have r:eq (d.take h++⟨e,n,1,q⟩::⟨e,n,2,q⟩::Z) ((h:Int)+1) j=d.take h++⟨e,n++dk j,1,q⟩::⟨e,n++dk j,2,q⟩::Z:=by
  unfold eq;rw[ai (by simp only[b3,dV,a];omega),show ((h:Int)+1).toNat=h+1 by omega,o];simp only;rw[ai (by simp[i,k]),ai aa,ai aW,aB bh,show h+1 - 1=h by omega];have s:gH (d.take h++(⟨e,n,1,q⟩ :aL)::⟨e,n,2,q⟩::Z) h (n++dk j)=d.take h++⟨e,n++dk j,1,q⟩::⟨e,n,2,q⟩::Z:=by
   unfold gH;rw[p];have c:=xr (d.take h) (uT ⟨e,n,1,q⟩<|n++dk j) (⟨e,n,1,q⟩::⟨e,n,2,q⟩::Z) au
   rw[a] at c
   simpa [uT] using c
  rw[s];have t: (d.take h++(⟨e,n++dk j,1,q⟩ :aL)::⟨e,n,2,q⟩::Z)[h+1]? = some ⟨e,n,2,q⟩:=by
   rw[i_ aa,a,show h+1 - h=1 by omega];simp
  unfold gH;rw[t];simp only;rw[rm _ _ aa,a,show h+1 - h=1 by omega];rfl
 show b7 (eq (b7<|d.take h++⟨e,n,1,q⟩::⟨e,n,2,q⟩::Z) ((h:Int)+1) j)=_
 rw[b,r,b]
def IJ(c:dU d)(f:dU B)(e:d.length=B.length){x n:Nat}{k v:Int}(g:Cut d x)(h:1<=n)(i:x+n<=d.length)(j:d.take (x+n)=d.take x++List.replicate n (hr k v))(l:Cut d (x+n)){a b:Int}(m:a=(x:Int))(o:b=(x:Int)+n):
 cX (hE · a b k v) (fB d B x)=fB d B (x+n):=by
 subst m o;have p:=C4 e x
 have q: (d.take x).length=x:=by simp;omega
 unfold cX;rw[C3 c g];have r:hE (fB d B x) (x:Int) ((x:Int)+n) k v=d.take (x+n)++B.drop (x+n):=by
  unfold hE;rw[p,aB aa,show (max 0 (x:Int)).toNat=x by omega,show (min ((x:Int)+n) (d.length:Int)).toNat - x=n by omega];unfold f_;have s: (fB d B x).take x=d.take x:=by rw[fB,List.take_append_of_le_length aa,List.take_take,Nat.min_self]
  have t: (fB d B x).drop (x+n)=B.drop (x+n):=by
   rw[fB,show x+n=(d.take x).length+n by omega,List.drop_length_add_append,IH (T:=d) f e h i,q]
  rw[s,t,j]
 show b7 (hE (fB d B x) (x:Int) ((x:Int)+n) k v)=_
 rw[r,c.vq l];rfl
def Sb(a:d[h]? = some m):d.take h++m::b7 (B.drop<|h+1)=fB d B (h+1):=by
 rw[fB,xt a];simp
def Sc(a:d[h]? = some m)(b:d[h+1]? = some M):d.take h++m::M::b7 (B.drop<|h+2)=fB d B (h+2):=by
 rw[fB,xt b,xt a];simp
def gt(y x last:Int):a1:={ X with bz:={ X.bz with cY:=z },bk:={ X.bk with at_:=E },y:=y,x:=x,last:=last }
structure jo (S:a1):Prop where
 aQ:S.bk.aQ=⟨66,66,66,66,0,0⟩
 put:S.bk.put=false
 home:S.bk.home=false
def C5{n :Int}(a:e<=n/\n<=j):fU n e j=n:=by unfold fU;omega
def Sd(a:jo g){l y x:Int}(d:0<=y/\y<o.length)(f:0<=x/\x<g.bz.al):me (gt g o q e j l) y x=gt g o q y x l:=by
 unfold me;rw[ai (by show ¬g.bk.home=true;rw[a.home];decide)];have b:fU y 0 ((o.length:Int) - 1 - 0)=y:=C5 aa
 have c:fU x 0 (g.bz.al - 1)=x:=C5 aa
 simp only[gt,a1.rows,a1.al,b,c,Int.zero_add]
def IK :qH ⟨66,66,66,66,0,0⟩ f=(f,⟨66,66,66,66,0,0⟩):=by
 have:zN (⟨66,66,66,66,0,0⟩ :gE) (m8 ⟨66,66,66,66,0,0⟩)=66:=by decide
 simp only[qH,this,pC];rw[ai aa,ai aa,ai aa]
def putRow(b:Int)(c:List aL->List aL):List bq:=z.modify b.toNat λa=>(c a.1,a.2)
def C6(b:0<=e/\e<z.length)(a:List aL->List aL):l8 { F with cY:=z } e a= { F with cY:=putRow z e a }:=by
 unfold l8 l7;rw[aB b];rfl
def Se(a:jo g){c r:Int}(d:0<=e/\e<o.length)(m:1<=cO r)(f:j+cO r<=g.bz.al):
 ke (gt g o q e j c) r=gt g (putRow o e<|cX (gZ · j r q)) q e (j+cO r) r:=by
 unfold ke;have h: (gt g o q e j c).bk.aQ=⟨66,66,66,66,0,0⟩:=a.aQ
 rw[h,IK,to,ai<|by show ¬cO r<1;omega];have i: ∀s:a1,hO s r=s:=λs=>by unfold hO;rw[ai aa]
 have k: ∀s:a1,s.x+cO r<=s.al->kb s (cO r)=s:=λs b=>by rw[rY,aB b]
 have l: ∀s:a1,s.bk.put=false->kd s (cO r)=s:=λs b=>by unfold kd;rw[ai (by rw[b];decide)]
 rw[i,k _ f,l];simp only[zE,hi,th,gt,C6 _ _ d,<-a.aQ];exact a.put
def Sf(a:jo g){l:Int}(b:0<=e/\e<o.length)(c:cO x=0):
 ke (gt g o q e j l) x=gt g (putRow o e<|cX (eq · (j - 1) x)) q e j l:=by
 unfold ke;have d: (gt g o q e j l).bk.aQ=⟨66,66,66,66,0,0⟩:=a.aQ
 rw[d,IK,to,aB<|by show cO x<1;omega];simp only[hO,c,if_true,hi,uZ,gt,C6 _ _ b,<-a.aQ]
def C7(rows:List bq)(c: ∀a∈rows,a.2=false)(b:Int):iS { F with cY:=rows } b false= { F with cY:=rows }:=by
 unfold iS l7;split
 have:rows.modify b.toNat (λa=>(a.1,false))=rows:=by
  apply jY
  intro d;rw[List.getElem?_modify];cases e:rows[d]? with
  | none=>simp
  | some a=>
   have:=c a<|cR e
   simp only[Option.map_eq_map,o_];split
   rw[<-this];rfl
 simp only[this];rfl
def C8(c: ∀a∈o,a.2=false): ∀a∈putRow o e C,a.2=false:=λa b=>by
 rcases mem_modify b with b | ⟨d,f,rfl⟩
 exact c a b;exact c d f
def IL{S:a1}{on:dH}{y x l n:Int}(b:0<=y/\y<o.length)(i:x<S.bz.al)(d:1<=n/\n<=1000)(a: ∀e∈o,e.2=false):
 qD (gt S o on y x l) n=gt S (putRow o y<|cX (hE · x (x+n) on.aq on.aR)) on y x l:=by
 have f:gb (gt S o on y x l)=x:=by show min x (S.bz.al - 1)=x;omega
 have g:fU n 1 1000=n:=C5 d
 unfold qD;simp only[f,g];have h:eraseP { S.bz with cY:=o } y x (x+n) on.aq on.aR= { S.bz with cY:=putRow o y (cX (hE · x (x+n) on.aq on.aR)) }:=by
  unfold eraseP;rw[aB b];simp only[C6 _ _ b];split
  split
  rw[C7 _ _ (C8 a),C7 _ _<|C8 a];rw[C7 _ _ (C8 a)];rfl
 exact a_ (λc=>gt { S with bz:=c } c.cY on y x l) h
