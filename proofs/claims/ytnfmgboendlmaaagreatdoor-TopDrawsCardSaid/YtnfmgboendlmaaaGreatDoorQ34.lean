/- part 34 of the proof -/
import Derived.Test.YtnfmgboendlmaaaGreatDoorQ33
set_option linter.all false
namespace Go.Proofs.YtnfmgboendlmaaaGreatDoor.Mq
open RowKit Tryz
variable {O:Array Edge}{G:Code}{E:Fr}{j:Int}{R:IntKind}{h:List Chunk}{o:List Nat}{I:List Oper}{Q:List Value}{F a:List bn}{r:Nat}{P:Operand}{v:Program}{K:String}{U:Type}{J:TypeId}{n:World}{C:bG}{d w:bn}{D:cN}{t:dp}{S:fb}{B:nm}(q:fb)(b:World)(p:dp)(u:bn)(y:Int)(T:List bG)
def yb{w:World}(a:gW t j)(i:B.text.length<=256){z:bn}(b:t.l.getLast?=some d)(k:z.g=d.g)(m:1<=z.bV/\z.bV<=4){f:fo->fo}(p:f d.abs=z.abs)(dir:List UInt8)
 (q:hS t.abs B C=k0 { t.abs with dir:=dir } f) (r:ag n o (z.aq::aZ ((t.l.map bn.aq).eraseIdx<|t.l.length - 1)::(dp.aq { t with dir:=dir })::fp t.A t.c t.l::h) w):
 k1 t j B C { t with l:=t.l.set (t.l.length - 1) z,dir:=dir }/\ag n o (du { t with l:=t.l.set (t.l.length - 1) z,dir:=dir }) w:=by
 have e:=(EN b).1
 refine⟨k1.of a i rfl (Xh a.bV m) ?_,?_⟩;rw[q];show (⟨_,_,_,_⟩ :gd)=⟨_,_,_,_⟩
 rw[Xg b p];rfl
 have s:=r.EM e
 simp only[du,dp.aq,tW,Xf e k,gx];exact s.aF ah
def yc{b:World}{a:dp}(c:k1 t j B C a/\ag n (aK<|du t) (du a) b):A6 t j B C n (.returned<|.tuple #[]) b:=aX.cf a c.1 rfl c.2
def Xl(c:dp)(Zf:bc b (du c))(f:gW c j)(S:j<=1000000000000000)(a:nm)(s:a.text.length<=256)(p:bG)(t:c.l.getLast?=some d):ay 130 [ptr c.g,EP a,fc p] b (A6 c j a p b):=by
 have w:=f.bV
 have u:d∈c.l:=wt t
 have v:=w d u
 have y: (c.l.map bn.aq)[c.l.length - 1]? = some d.aq:=by rw[fw,(EN t).1];rfl
 refine bX func130 ntmps130 Zf ?_;refine ap ?_;intro Zm Zn Zo;refine av ?_;intro Zp Zq Zr;refine bP ?_;refine bF (EJ · p)<|aI ?_;refine cD rfl (λA=>?_) λA=>?_;have M: ¬dS p:=λh=>by rw[bI h] at A;exact absurd A aW
 refine ap ?_;exact bT c<|k1.of f s rfl w (by unfold hS;rw[aB M]);have M:dS p:=Classical.byContradiction λh=>by rw[bJ h] at A;exact absurd A aW
 have N:=ED (A3 M)<|EC<|f.wf.is d.abs<|ei.2 ⟨d,u,rfl⟩
 have n:=Xi t v a M
 obtain⟨i,Z⟩ : ∃i,i=jR p (iZ d.abs):=⟨_,rfl⟩;rw[<-Z] at N n
 have Zg:a.kind=1->ir c.abs 1 i=hS c.abs a p:=λh=>by rw[n,aB h]
 have Za: (a.kind=2\/a.kind=3)/\ ¬(1<=(d.bV:Int)/\(d.bV:Int)<=a.kind - 1)->ir c.abs a.kind.toNat i=hS c.abs a p:=λh=>by
  rcases h.1 with ab | ab
  rw[n,ai aa,aB ab,ai aa,ab];rfl
  rw[n,ai aa,ai aa,aB ab,ai aa,ab];rfl
 have Zb: (a.kind=2\/a.kind=3)/\(1<=(d.bV:Int)/\(d.bV:Int)<=a.kind - 1)->hS c.abs a p=k0 c.abs (iq · a.kind.toNat i):=λh=>by
  rcases h.1 with ab | ab
  rw[n,ai aa,aB ab,aB aa,ab];rfl
  rw[n,ai aa,ai aa,aB ab,aB aa,ab];rfl
 have Zh:a.kind=4/\(1<=(d.bV:Int)/\(d.bV:Int)<=3)->hS c.abs a p=k0 c.abs (λk=>{ iq k 4 i with code:=a.code,has:=a.has }):=λh=>by
  rw[n,ai aa,ai aa,ai aa,aB h.1,aB h.2]
 have Zi:a.kind=5/\(1<=(d.bV:Int)/\(d.bV:Int)<=3)->hS c.abs a p=k0 c.abs (λk=>{ k with line:=a.text }):=λh=>by
  rw[n,ai aa,ai aa,ai aa,ai aa,aB h.1,aB h.2]
 have Zj:a.kind=6/\(1<=(d.bV:Int)/\(d.bV:Int)<=2)->hS c.abs a p=k0 { c.abs with dir:=a.text } (λk=>{ k with dir:=a.text }):=λh=>by
  rw[n,ai aa,ai aa,ai aa,ai aa,ai aa,aB h.1,aB h.2]
 have Zk:a.kind=6/\ ¬(1<=(d.bV:Int)/\(d.bV:Int)<=2)->({ c with dir:=a.text }:dp).abs=hS c.abs a p:=λh=>by
  rw[n,ai aa,ai aa,ai aa,ai aa,ai aa,aB h.1,ai h.2];rfl
 have T: (a.kind=4\/a.kind=5)/\ ¬(1<=(d.bV:Int)/\(d.bV:Int)<=3)\/ ¬a.kind=1/\ ¬a.kind=2/\ ¬a.kind=3/\ ¬a.kind=4/\ ¬a.kind=5/\ ¬a.kind=6->c.abs=hS c.abs a p:=λh=>by
  rw[n];rcases h with ⟨ab | ab,Zc⟩ | h
  rw[ai aa,ai aa,ai aa,aB ab,ai Zc];rw[ai aa,ai aa,ai aa,ai aa,aB ab,ai Zc];rw[ai h.1,ai h.2.1,ai h.2.2.1,ai h.2.2.2.1,ai h.2.2.2.2.1,ai h.2.2.2.2.2]
 refine aI ?_;refine bd (λe m=>(by have h:=EK e c (m.has cW)<|m.has hL;rw[t] at h;exact h)) ?_;refine bP ?_;refine bN [0,1] 3 [[(2,false,[]),(3,false,[]),(4,true,[])]] ?_;refine a7 ?_;refine cU (λe o=>Lw e d (od o u) v)<|ap ?_;refine bd (λe m=>(by have h:=Lh e p<|iZ d.abs;rw[<-Z] at h;exact h)) ?_;refine (aE) (λZd=>ap ?_) λZd=>?_;refine bK (l0:=du c) ah (hargs:=rfl) (λe m=>v7 e c (m.cb ah) f S _ 1 rfl aa i N) λz q=>ap ?_;exact bT z ⟨q.1,q.2.1,q.2.2.trans<|Zg Zd⟩;refine (aE) (λU=>?_) λU=>?_;have Ze:=U
 refine aA ?_;refine e_ rfl ((bI Ze))<|b6 ?_;refine cU (λe o=>ya e d (od o u) _ _) ?_;refine (aE) (λV=>aA ?_) λV=>a7 ?_;refine x3 (L:=c.l.map bn.aq) (k:=c.l.length - 1) pn y<|aA ?_;refine bK (l0:=[d.aq]) ah (hargs:=rfl) (λe m=>EO e d (m.cb ah) _ a.kind.toNat aa aa v.2 i) λ⟨O,P,Q,B,C,D,E,z0,F,G,H,I⟩ ⟨x,J,K,L⟩=>ap ?_;exact λR r=>yc<|yb f s t (z:=⟨O,P,Q,B,C,D,E,z0,F,G,H,I⟩) x (by dsimp only at K L ⊢;omega) (f:=λk=>iq k a.kind.toNat i) J.symm c.dir (Zb aa)<|r.aF ah
 refine bK (l0:=du c) ah (hargs:=rfl) (λe m=>v7 e c (m.cb ah) f S _ a.kind.toNat aa aa i N) λz q=>ap ?_;exact bT z ⟨q.1,q.2.1,q.2.2.trans<|Za aa⟩;have Ze:=U
 refine (aE) (λV=>b6 ?_) λV=>?_;refine cU (λe o=>ya e d (od o u) _ _) ?_;refine (aE) (λW=>aA ?_) λW=>a7 ?_;refine x3 (L:=c.l.map bn.aq) (k:=c.l.length - 1) pn y<|aA ?_;refine bK (l0:=[d.aq]) ah (hargs:=rfl) (λe m=>EO e d (m.cb ah) _ a.kind.toNat aa aa v.2 i) λ⟨O,P,Q,B,C,D,E,z0,F,G,H,I⟩ ⟨x,J,K,L⟩=>ap ?_;exact λR r=>yc<|yb f s t (z:=⟨O,P,Q,B,C,D,E,z0,F,G,H,I⟩) x (by dsimp only at K L ⊢;omega) (f:=λk=>iq k a.kind.toNat i) J.symm c.dir (Zb aa)<|r.aF ah
 refine bK (l0:=du c) ah (hargs:=rfl) (λe m=>v7 e c (m.cb ah) f S _ a.kind.toNat aa aa i N) λz q=>ap ?_;exact bT z ⟨q.1,q.2.1,q.2.2.trans<|Za aa⟩;refine (aE) (λW=>ap ?_) λW=>?_;refine cU (λe o=>ya e d (od o u) _ _) ?_;refine (aE) (λX=>ap ?_) λX=>ap ?_;refine x3 (L:=c.l.map bn.aq) (k:=c.l.length - 1) pn y<|av ?_;refine bK (l0:=[d.aq]) ah (hargs:=rfl) (λe m=>EO e d (m.cb ah) _ 4 rfl aa v.2 i) λ⟨O,P,Q,B,C,D,E,z0,F,G,H,I⟩ ⟨x,J,K,L⟩=>aA ?_;dsimp only at x L K;subst x
 refine fg [0,1,2,3,4,5,6,7,8] 2 [[(9,false,[10,11,12]),(13,true,[])]] (_) mixed ak (λ_ r=>r.drew) (λ_ h=>h.rem bH.head)<|b6 ?_;refine cv (λ_=>True) (λ_ h=> .inr<|h.rem bH.head) (λ_ h=>bh)<|bP ?_;exact λR r=>yc<|yb f s t (z:=⟨d.g,a.code,a.has,B,C,D,E,z0,F,G,H,I⟩) rfl bL (f:=λk=>{ iq k 4 i with code:=a.code,has:=a.has }) (by dsimp only;rw[<-J];rfl) c.dir (Zh aa)<|r.aF ah
 exact bT c<|k1.of f s rfl w<|T aa;refine (aE) (λX=>ap ?_) λX=>?_;refine cU (λe o=>ya e d (od o u) _ _) ?_;refine (aE) (λY=>aA ?_) λY=>ap ?_;refine x3 (L:=c.l.map bn.aq) (k:=c.l.length - 1) pn y<|a6 ?_;exact λR r=>yc<|yb f s t (z:={ d with line:=a.text }) rfl v (f:=λk=>{ k with line:=a.text }) rfl c.dir (Zi aa)<|r.aF ah
 exact bT c<|k1.of f s rfl w<|T aa;refine (aE) (λY=>cn ?_) λY=>ap ?_;refine cU (λe o=>ya e d (od o u) _ _) ?_;refine (aE) (λZl=>aA ?_) λZl=>ap ?_;refine x3 (L:=c.l.map bn.aq) (k:=c.l.length - 1) pn y<|a6 ?_;exact λR r=>yc<|yb f s t (z:={ d with dir:=a.text }) rfl v (f:=λk=>{ k with dir:=a.text }) rfl a.text (Zj aa)<|r.aF ah
 exact bT { c with dir:=a.text } (k1.of f s rfl w<|Zk aa);exact bT c<|k1.of f s rfl w<|T aa
def Xm(d:bc b (du p))(e:gW p j)(f:j<=1000000000000000)(a:nm)(h:a.text.length<=256)(c:bG):ay 130 [ptr p.g,EP a,fc c] b (A6 p j a c b):=by
 cases i:p.l.getLast? with
 | none=>exact Xk b p d e f a h c i
 | some k=>exact Xl b p d e f a h c i
def kp{α:Type}(f:α->α)(l:List α)(i:Nat):List α:=(l.take i).map f++l.drop i
section
variable {α:Type}{f:α->α}{l:List α}{i:Nat}{e:α}
def LC:kp f l 0=l:=by simp[kp]
def LD(a:l.length<=i):kp f l i=l.map f:=by rw[kp,eT a,p5 a,eZ]
def EQ(a:l[i]? = some e): (kp f l i)[i]? = some e:=by
 have b:=(cH.1 a).1
 rw[kp,i_<|by simp;omega,ja];simpa [jZ (Nat.le_of_lt b)] using a
def Xn(a:l[i]? = some e): (kp f l i).set i (f e)=kp f l (i+1):=by
 have b:=(cH.1 a).1
 have d:=(cH.1 a).2
 have c: ((l.take i).map f).length=i:=by simp;omega
 unfold kp;rw[rm _ _ aa,c,ov,lY b,nC,hA,a];simp
end
def LE{f:bn->bn}(c: ∀e,(f e).g=e.g)(a:Option Addr)(b:Nat)(l:List bn):fp a b (l.map f)=fp a b l:=by
 show ip _ _ _ (l.map f).length _ (ln.all<|(l.map f).map bn.g)=_
 have e:l.map (bn.g ∘ f)=l.map bn.g:=sD λe _=>c e
 rw[c8,o8,e]
def my(e:bn):bn:={ e with cut:=e.cut || sj e.cG q }
def Xo{e:bn}(a:1<=e.bV/\e.bV<=4): (my q e).abs=tU q e.abs:=by
 unfold tU;rw[x9 e a];rfl
def Xp{l:List bn}(a:hT l): (l.map<|my q).map bn.abs=(l.map bn.abs).map (tU q):=by
 rw[o8,o8];exact sD λe b=>Xo q<|a e b
def ag.Xq{w:World}{a:bn}{l:List bn}(b:ag n o (fQ (d::a::l)::h) w):ag n o (d.aq::a.aq::fQ l::h) w:=by
 have c:ag n o (d.aq::aZ (a.aq::l.map bn.aq)::h) w:=b.pick (k:=0) rfl
 have e:ag n o (aZ (a.aq::l.map bn.aq)::d.aq::h) w:=c.perm<|List.Perm.swap _ _ _
 have f:ag n o (a.aq::fQ l::d.aq::h) w:=e.pick (k:=0) rfl
 exact f.perm<|p_ (l₁:=[a.aq,fQ l]) (l₂:=h)
def Xr{a:List Chunk}{l:List bn}(b:bH h (fQ<|d::w::l) a)(c:dA v r G D E (ag n o<|d.aq::w.aq::fQ l::a)):dA v r G D E (ag n o h):=
 dh c (Sub.refl _) λ_ e=>(e.perm b.perm).Xq
def ag.ER{w:World}{l:List bn}(a:ag n o (d.aq::fQ l::h) w):ag n o (fQ (d::l)::h) w:=by
 have b:ag n o (aZ [d.aq]::fQ l::h) w:=a.close (l:=[d.aq]) ah
 exact b.Cq
def ag.LF{w:World}{a:bn}{l:List bn}(b:ag n o (d.aq::a.aq::fQ l::h) w):ag n o (fQ (d::a::l)::h) w:=by
 have c:ag n o (a.aq::fQ l::d.aq::h) w:=b.perm (p_ (l₁:=[a.aq,fQ l]) (l₂:=h)).symm
 exact (c.ER.perm<|List.Perm.swap _ _ _).ER
def ag.ES{a w:World}{b:List Nat}{c:List Chunk}{f:bn->bn}{l:List bn}{i:Nat}{e z:bn}(h:ag a b (z.aq::aZ (((kp f l i).map bn.aq).eraseIdx i)::c) w)(d:l[i]? = some e)(j:z=f e):ag a b (fQ (kp f l<|i+1)::c) w:=by
 have g:=h.EM<|EQ d
 rw[j,Xn d] at g
 exact g
abbrev dp.Xs(A:Option Addr)(c:Nat)(l:List bn):dp:={ p with A:=A,c:=c,l:=l }
def Xt(X:bc b (du p))(R:gW p j)(d:fb):ay 207 [ptr p.g,tS d] b
 (aX (λ_:Option Addr × Nat × List bn=> .tuple #[]) (du p) (λh=>du<|p.Xs h.1 h.2.1 h.2.2) (λh=>hT h.2.2/\h.2.2.map bn.abs=(ll d<|p.l.map bn.abs).map (tU d)) b):=by
 have Y:=R.len
 have S:=R.bV
 obtain⟨t,J,K,l,E,F,G⟩:=p;dsimp only at Y S ⊢
 refine bX func207 ntmps207 X ?_;refine ap ?_;intro u Zi Zj;refine aY ?_;intro y Zk Zl;refine a7 ?_;refine gA (λ_:Option Addr × Nat × List bn=>[(0,ptr t),(3,ptr u),(4,ptr y)]) (λh=>ag b (aK<|du ⟨t,J,K,l,E,F,G⟩)<|aG y [ad d.n,z0] 44::aG u d.enc 232::du ⟨t,h.1,h.2.1,h.2.2,E,F,G⟩) (λh=>hT h.2.2/\h.2.2.length<=10000/\h.2.2.map bn.abs=ll d (l.map bn.abs)) (av ?_) ?_;refine cd (ι:=Option Addr × Nat × List bn) (λ_=>[(0,ptr t),(3,ptr u),(4,ptr y)]) (λh=>ag b (aK<|du ⟨t,J,K,l,E,F,G⟩)<|aG y [ad d.n,z0] 44::aG u d.enc 232::du ⟨t,h.1,h.2.1,h.2.2,E,F,G⟩) (λh=>hT h.2.2/\h.2.2.length<=10000/\ll d (h.2.2.map bn.abs)=ll d (l.map bn.abs)) (λh=>h.2.2.length) ?_ ?_;exact λZ M=>⟨(J,K,l),⟨S,by dsimp only;omega,rfl⟩,(ed rfl rfl rfl),M⟩
 rintro⟨z,ce,o⟩ ⟨s,B,C⟩;dsimp only at s B C ⊢
 refine A1 (A:=z) (m:=o.length) (c:=ce) hL λL=>?_;rcases o with _ | ⟨r,_ | ⟨k,m⟩⟩
 refine aA ?_;refine bN [0,1,2,3,4,5,6,7,8,9,10,11,12,13,14,15,16,17] 2 [[(18,true,[19,20,21,22,23,24,25,26,27,28,29,30,31]),(32,true,[33,34])]] ?_;refine aU ?_;refine aO rfl (λc a=>e9 rfl rfl rfl (au) aJ) ?_;refine aO rfl (λc a=>e9 rfl rfl rfl (au) aJ) ?_;refine aO rfl (λc a=>e9 rfl rfl rfl (au) aJ) ?_;refine aO rfl (λc a=>e9 rfl rfl rfl (au) aJ) ?_;refine aO rfl (λc a=>e9 rfl rfl rfl (au) aJ) ?_;refine aO rfl (λc a=>e9 rfl rfl rfl (au) aJ) ?_;refine aO rfl (λc a=>e9 rfl rfl rfl (au) aJ) ?_;refine aO rfl (λc a=>e9 rfl rfl rfl (au) aJ) ?_;refine aO rfl (λc a=>e9 rfl rfl rfl (au) aJ) ?_;refine aO rfl (λc a=>e9 rfl rfl rfl (au) aJ) ?_;refine aO rfl (λc a=>e9 rfl rfl rfl (au) aJ)<|aA ?_;refine e9 rfl rfl rfl (au)<|cv (_) (λ_ _=> .inl rfl) (λ_ f=>f) ?_;refine aO rfl (λc a=>(hd rfl rfl au rfl aJ))<|oI ?_;exact dN (z,ce,[]) ⟨s,B,C⟩ b5 λ_ f=>f;refine aA ?_;refine bN [0,1,2,3,4,5,6,7,8,9,10,11,12,13,14,15,16,17] 2 [[(18,true,[19,20,21,22,23,24,25,26,27,28,29,30,31]),(32,true,[33,34])]] ?_;refine aU ?_;refine aO rfl (λc a=>e9 rfl rfl rfl (au) aJ) ?_;refine aO rfl (λc a=>e9 rfl rfl rfl (au) aJ) ?_;refine aO rfl (λc a=>e9 rfl rfl rfl (au) aJ) ?_;refine aO rfl (λc a=>e9 rfl rfl rfl (au) aJ) ?_;refine aO rfl (λc a=>e9 rfl rfl rfl (au) aJ) ?_;refine aO rfl (λc a=>e9 rfl rfl rfl (au) aJ) ?_;refine aO rfl (λc a=>e9 rfl rfl rfl (au) aJ) ?_;refine aO rfl (λc a=>e9 rfl rfl rfl (au) aJ) ?_;refine aO rfl (λc a=>e9 rfl rfl rfl (au) aJ) ?_;refine aO rfl (λc a=>e9 rfl rfl rfl (au) aJ) ?_;refine aO rfl (λc a=>e9 rfl rfl rfl (au) aJ)<|aA ?_;refine e9 rfl rfl rfl (au)<|cv (_) (λ_ _=> .inl rfl) (λ_ f=>f) ?_;refine aO rfl (λc a=>(hd rfl rfl au rfl aJ))<|oI ?_;exact dN (z,ce,[r]) ⟨s,B,C⟩ b5 λ_ f=>f;obtain⟨v,w,N⟩:=L.2.2 au;have Zm:m.length+2<=ce:=L.1
 subst N;have T:=x9 r<|s r au
 have U:=x9 k<|s k au
 have Za:sj r.cG d=true->jh ⟨d.n,0⟩ k.cG=false->ll d ((k::m).map bn.abs)=ll d (l.map bn.abs):=λZb Zc=>by
  rw[<-C];show _=ll d (r.abs::k.abs::m.map bn.abs)
  rw[ll,T,U,aB ⟨Zb,Zc⟩];rfl
 have V:sj r.cG d=false\/jh ⟨d.n,0⟩ k.cG=true->(r::k::m).map bn.abs=ll d (l.map bn.abs):=λq=>by
  rw[<-C];show _=ll d (r.abs::k.abs::m.map bn.abs)
  rw[ll,T,U,ai (λe=>by rcases q with q | q <;> simp_all)];rfl
 refine Xr pn<|aA ?_;refine bN [0,1,2,3,4,5,6,7,8,9,10,11,12,13,14,15,16,17] 2 [[(18,false,[19,20,21,22,23,24,25,26,27,28,29,30,31]),(32,false,[33,34])]] ?_;refine aU ?_;refine aO rfl (λc a=>bO rfl rfl ((by simp;omega))<|gY rfl rfl aJ) ?_;refine aO rfl (λc a=>bO rfl rfl ((by simp;omega))<|pk rfl rfl aJ) ?_;refine aO rfl (λc a=>bO rfl rfl ((by simp;omega))<|pc N3 rfl rfl aJ) ?_;refine aO rfl (λc a=>bO rfl rfl ((by simp;omega))<|bb oD rfl rfl (λH A=>by subst A;exact a.e8 kG rfl) aJ) ?_;refine aO rfl (λc a=>bO rfl rfl ((by simp;omega))<|bE (q:=0) mK rfl rfl rfl rfl rfl (by show 0<m.length+1+1;omega) aJ) ?_;refine aO rfl (λc a=>bO rfl rfl ((by simp;omega))<|bb ph rfl rfl (λH A=>by subst A;exact pY (a.has hM) (k:=0) (e:=r) rfl) aJ) ?_;refine aO rfl (λc a=>bO rfl rfl ((by simp;omega))<|pk rfl rfl aJ) ?_;refine aO rfl (λc a=>bO rfl rfl ((by simp;omega))<|pc N5 rfl rfl aJ) ?_;refine aO rfl (λc a=>bO rfl rfl ((by simp;omega))<|d9 (q:=0) underlying247 oE rfl rfl rfl bo aa aJ) ?_;refine aO rfl (λc a=>bO rfl rfl ((by simp;omega))<|cE fF rfl rfl rfl (λH A O P Q=>by subst A;exact a.mI (sz:=2) bw rfl O P Q) aJ) ?_;refine aO rfl (λc a=>bO rfl rfl ((by simp;omega))<|cE BK rfl rfl rfl (λH A O P Q=>by subst A;exact a.mI (sz:=3) j4 rfl O P Q) aJ) ?_;refine aA ?_;refine bO rfl rfl ((by simp;omega)) ?_;refine bF (Eu · r.cG d)<|cv (_) (λ_ f=> .inr f) (λ_ f=>f) ?_;refine aO rfl (λc a=>(mF rfl rfl (by simp;omega) rfl aJ)) ?_;refine av ?_;refine qm 30 rfl (λx=>?_) λx=>?_;have Zd:=bg x
 refine aI ?_;refine aO rfl (λc a=>bO rfl rfl (x)<|bE (q:=1) mK rfl rfl rfl rfl rfl (by show 1<m.length+1+1;omega) aJ) ?_;refine aO rfl (λc a=>bO rfl rfl (x)<|bb ph rfl rfl (λH A=>by subst A;exact pY (a.has hM) (k:=1) (e:=k) rfl) aJ) ?_;refine aA ?_;refine aO rfl (λc a=>bO rfl rfl (x)<|d9 (q:=0) underlying247 oE rfl rfl rfl bo aa aJ)<|a7 ?_;refine bF (x1 · ⟨d.n,0⟩ k.cG)<|cv (λ_=>True) (λ_ f=> .inr ⟨.inr f,f⟩) (λ_ f=>bh) ?_;refine aI ?_;refine cD rfl (λI=>?_) λI=>?_;simp only[cq] at I
 refine a6 ?_;refine gp 1 (m.length+2) mK rfl rfl (.inl ⟨_,_,rfl,rfl,rfl⟩) (.inr ⟨rfl,rfl⟩) aa aa ?_;rw[ai (show ¬ce=1 by omega)];refine Ez (c:=fp (some ⟨v,w,none⟩) ce<|r::k::m) (c':=fp ((some ⟨v,w,none⟩ :Option Addr).map (·.add (1*1))) (ce - 1)<|k::m) wN (Ll _ _ _ _ _ _ _ _ _ _) (λb f=>Ly au f)<|aI ?_;exact bv ((some ⟨v,w,none⟩ :Option Addr).map (·.add (1*1)),ce - 1,k::m) ⟨λe D=>s e<|sE _ D,Nat.le_of_succ_le B,Za x I⟩ (Nat.lt_succ_self _) (ed rfl rfl rfl) λ_ f=>((f.aF (l:=[k.aq,fQ m,aG y _ 44,aG u _ 232,aG t _ 224,fp ((some ⟨v,w,none⟩ :Option Addr).map (·.add (1*1))) (ce - 1)<|k::m]) ah).ER).aF ah;simp only[cq] at I
 refine a7 ?_;exact dN (some ⟨v,w,none⟩,ce,r::k::m) ⟨s,B,V<|.inr I⟩ (ed rfl rfl rfl) λ_ f=>(ag.LF<|f.aF (l:=[r.aq,k.aq,fQ m,aG y _ 44,aG u _ 232,aG t _ 224,fp (some ⟨v,w,none⟩) ce<|r::k::m]) ah).aF ah;have Zd:=bm x
 refine cZ ?_;refine cv (λ_=>True) (λ_ f=> .inr ⟨.inr f,f⟩) (λ_ f=>bh)<|be ?_;exact dN (some ⟨v,w,none⟩,ce,r::k::m) ⟨s,B,V<|.inl x⟩ (ed rfl rfl rfl) λ_ f=>(ag.LF<|f.aF (l:=[r.aq,k.aq,fQ m,aG y _ 44,aG u _ 232,aG t _ 224,fp (some ⟨v,w,none⟩) ce<|r::k::m]) ah).aF ah;rintro⟨z,ce,o⟩ ⟨s,B,C⟩;dsimp only at s B C ⊢
 refine b6 ?_;refine cd (ι:=Nat) (λi=>[(3,ptr u),(56,.slice z o.length ce),(57,ad (o.length:Int)),(58,ad (i:Int))]) (λi=>ag b (aK<|du ⟨t,J,K,l,E,F,G⟩) [aG y [ad d.n,z0] 44,aG u d.enc 232,aG t [.slice z o.length ce,ad E,.int .u64 F,bU G] 224,fp z ce o,fQ<|kp (my d) o i]) (λi=>i<=o.length) (λi=>o.length - i) ?_ ?_;exact λZ M=>⟨0,b4 _,(da rfl rfl rfl rfl),by rw[LC];exact M⟩
 intro i Zn;refine A1 (A:=z) (m:=o.length) (c:=ce) hL λL=>?_;refine (aE) (λZe=>?_) λZe=>aI ?_;obtain⟨e,D⟩ : ∃e,o[i]? = some e:=⟨_,bD aa⟩;obtain⟨v,w,N⟩:=L.2.2 aa;subst N;have Zf:e.cut=true->(my d e).aq=aG e.g ((mx e).set 2<|.bool true) 249:=λf=>by simp[bn.aq,my,f]
 have Zg:e.cut=false->(my d e).aq=aG e.g ((mx e).set 2<|.bool<|sj e.cG d) 249:=λf=>by simp[bn.aq,my,f]
 refine EA (L:=(kp (my d) o i).map bn.aq) (c:=e.aq) (k:=i) pn (by rw[fw,EQ D];rfl) ?_;refine aH ?_;refine bE (q:=i) mK rfl rfl rfl rfl rfl aa<|bb ph rfl rfl (λH s=>pY (s.has kG) D)<|ap ?_;refine bN [0,1,2,3,4,5,6,7,8,9,10,11,12] 2 [[(13,false,[14,15,16,17]),(18,true,[])]] ?_;refine aU ?_;refine qm 68 rfl (λx=>oI ?_) λx=>ap ?_;exact bv (i+1) aa aa (da rfl rfl rfl rfl) λ_ f=>(ag.ES (z:=my d e) ((Zf bR).symm▸(f.aF (l:=[aG e.g _ 249,aZ<|((kp (my d) o i).map bn.aq).eraseIdx i,aG y _ 44,aG u _ 232,aG t _ 224,fp (some ⟨v,w,none⟩) ce o]) ah)) D rfl).aF ah;refine aO rfl (λc a=>bO rfl rfl (x)<|d9 (q:=0) underlying247 oE rfl rfl rfl bo aa aJ)<|aI ?_;refine bF (Eu · e.cG d)<|ft ?_;exact bv (i+1) aa aa (da rfl rfl rfl rfl) λ_ f=>(ag.ES (z:=my d e) ((Zg bR).symm▸(f.aF (l:=[aG e.g _ 249,aZ<|((kp (my d) o i).map bn.aq).eraseIdx i,aG y _ 44,aG u _ 232,aG t _ 224,fp (some ⟨v,w,none⟩) ce o]) ah)) D rfl).aF ah;intro Zo W;refine aX.cf (z,ce,o.map<|my d) ⟨λe D=>by obtain⟨k,Zh,rfl⟩:=ei.1 D;exact s k Zh,by dsimp only;rw[Xp d s,C]⟩ rfl ?_;rw[LD aa] at W
 simp only[du,dp.aq,tW,LE (f:=my d) λ_=>rfl,c8];exact W.aF ah
def Xu{b:Array Oper}{a:Nat}{H:World->Prop}{c:Operand}{d i e k:Nat}{f g h l q:Nat}(m:dD v d i e k Q)(n:Nat.blt a r=true)(o:bi E P=some (.slice (some ⟨f,g,none⟩) h l))(p:bi E c=some (.int R j))
 (s:j=(q:Int)) (t:q<h) (u:aM v r b D I ((a,.pointer<|some ⟨f,g+q*e,none⟩)::E) H):aM v r b D (⟨some a,.indexAddr d P c,J,K,O,none⟩::I) E H:=
 bE m n o p rfl s t (by rw[Addr.add_lit];exact u)
def so(c:fb):Nat->bn->bn
 | 0,a=>a
 | b+1,a=>(so c b a).set b<|nl (a.at_ b) c
def ET(c:fb)(a:bn): ∀b,(so c b a).g=a.g
 | 0=>rfl
 | b+1=>by rw[so,Lv,ET c a b]
def Xv(a:r<4): (so q r u).at_ r=u.at_ r:=by
 match r,a with
 | 0,_=>rfl
 | 1,_=>rfl
 | 2,_=>rfl
 | 3,_=>rfl
def o5 :bn:=so q u.bV u
def LG(a:1<=d.bV/\d.bV<=4): (o5 q d).abs=x5 q d.abs/\(o5 q d).bV=d.bV:=by
 obtain⟨c,e,f,g,h,i,id,j,k,l,m,b⟩:=d;match b,a with
 | 1,_=>exact⟨rfl,rfl⟩
 | 2,_=>exact⟨rfl,rfl⟩
 | 3,_=>exact⟨rfl,rfl⟩
 | 4,_=>exact⟨rfl,rfl⟩
 | n+5,a=>exact absurd a.2 (by show ¬n+5<=4;omega)
 | 0,a=>exact absurd a.1 (by show ¬1<=0;decide)
def Xw(b:hT a): (a.map<|o5 q).map bn.abs=(a.map bn.abs).map (x5 q):=by
 rw[o8,o8];exact sD λc d=>(LG q<|b c d).1
def Xx(b:hT a):hT (a.map<|o5 q):=λf e=>by
 obtain⟨c,d,rfl⟩:=ei.1 e;rw[(LG q<|b c d).2];exact b c d
structure yd (s:dp) (N:Int) (x:fb) (z:dp):Prop where
 g:z.g=s.g
 ok:gW z N
 abs:z.abs=tV s.abs x
def yd.of{z:dp}(b:gW t j)(c:z.g=t.g)(d:hT z.l)(a:z.abs=tV t.abs S):yd t j S z:=⟨c,⟨a▸WZ b.wf S,d⟩,a⟩
def Xy(a:fb)(b:World):Ending->World->Prop:=aX (λ_:dp=> .tuple #[]) (du p) du (yd p y a) b
def Xz(K:bc b (du p))(u:gW p j)(x:fb):ay 127 [ptr p.g,tS x] b (Xy p j x b):=by
 have L:=u.len
 have B:=u.bV
 obtain⟨f,r,s,i,k,l,m⟩:=p;dsimp only at L B
 refine bX func127 ntmps127 K ?_;refine ap ?_;intro t Zc Zd;refine bP ?_;refine bF (AZ · x)<|aI ?_;refine cD rfl (λv=>?_) λv=>?_;have C: ¬eY x:=λh=>by rw[bI h] at v;exact absurd v aW
 refine ap ?_;exact λM y=>aX.cf ⟨f,r,s,i,k,l,m⟩ (yd.of u rfl B<|by unfold tV;rw[aB C]) rfl<|y.aF<|aP.cons c6<|aP.cons c6<|aP.cons c6 aP.nil
 have C: ¬¬eY x:=λh=>by rw[bJ h] at v;exact absurd v aW
 refine be ?_;refine gA (λ_:Option Addr × Nat × List bn=>[(0,ptr f),(3,ptr t)]) (λn=>ag b (aK<|du ⟨f,r,s,i,k,l,m⟩)<|aG t x.enc 232::du ⟨f,n.1,n.2.1,n.2.2,k,l,m⟩) (λn=>hT n.2.2/\n.2.2.map bn.abs=(if x.kind=2 then (ll x<|i.map bn.abs).map (tU x) else i.map bn.abs)) ?_ ?_;refine rz rfl (λD=>ap ?_) λD=>av ?_;refine bK (l0:=du ⟨f,r,s,i,k,l,m⟩) (aP.cons c6<|aP.cons c6<|aP.cons c6 aP.nil) (λN O=>Xt N ⟨f,r,s,i,k,l,m⟩ (O.cb<|aP.cons c6<|aP.cons c6<|aP.cons c6 aP.nil) u x) λn J=>av ?_;exact dN n ⟨J.1,by rw[aB D];exact J.2⟩ (ig rfl rfl) λ_ h=>h.aF<|aP.cons qn<|aP.cons bx<|aP.cons bx<|aP.cons bx aP.nil;exact dN (r,s,i) ⟨B,by rw[ai D]⟩ (ig rfl rfl) λ_ h=>h.aF<|aP.cons bx<|aP.cons bx<|aP.cons bx<|aP.cons bx aP.nil;rintro⟨w,o,c⟩ ⟨q,E⟩;dsimp only at q E ⊢
 have Ze:c.length<=10000:=by
  have z:=a_ List.length E
  have P:=(EF x<|i.map bn.abs).length_le
  rw[c8] at z P
  split at z
  rw[c8] at z;omega
  rw[c8] at z;omega
 refine b6 ?_;refine cd (ι:=Nat) (λd=>[(3,ptr t),(25,.slice w c.length o),(26,ad (c.length:Int)),(27,ad (d:Int))]) (λd=>ag b (aK<|du ⟨f,r,s,i,k,l,m⟩) [aG t x.enc 232,aG f [.slice w c.length o,ad k,.int .u64 l,bU m] 224,fp w o c,fQ<|kp (o5 x) c d]) (λd=>d<=c.length) (λd=>c.length - d) ?_ ?_;exact λQ F=>⟨0,b4 _,(da rfl rfl rfl rfl),by rw[LC];exact F⟩
 intro d Zf;refine A1 (A:=w) (m:=c.length) (c:=o) cW λR=>aH ?_;refine rz rfl (λS=>?_) λS=>aI ?_;obtain⟨e,A⟩ : ∃e,c[d]? = some e:=⟨_,bD aa⟩;obtain⟨G,H,T⟩:=R.2.2 aa;have U:=q e<|cR A
 subst T;refine EA (L:=(kp (o5 x) c d).map bn.aq) (c:=e.aq) (k:=d) qn (by rw[fw,EQ A];rfl) ?_;refine aH ?_;refine bE (q:=d) mK rfl rfl rfl rfl rfl aa<|bb ph rfl rfl (λV q=>pY (q.has j4) A)<|aH ?_;refine cU (A5 · e · U.2)<|bP ?_;refine cd (ι:=Nat) (λa=>[(3,ptr t),(25,.slice (some ⟨G,H,none⟩) c.length o),(26,ad (c.length:Int)),(27,ad (d:Int)),(6,.slice (some ⟨e.g,6,none⟩) e.bV 4),(33,.slice (some ⟨e.g,6,none⟩) e.bV 4),(34,ad (e.bV:Int)),(35,ad (a:Int))]) (λa=>ag b (aK<|du ⟨f,r,s,i,k,l,m⟩) [aG e.g (mx<|so x a e) 249,aZ<|((kp (o5 x) c d).map bn.aq).eraseIdx d,aG t x.enc 232,aG f [.slice (some ⟨G,H,none⟩) c.length o,ad k,.int .u64 l,bU m] 224,fp (some ⟨G,H,none⟩) o c]) (λa=>a<=e.bV) (λa=>e.bV - a) ?_ ?_;exact λQ F=>⟨0,b4 _,(po rfl rfl rfl rfl rfl rfl rfl rfl),F⟩
 intro a Zg;refine aH ?_;refine rz rfl (λW=>?_) λW=>?_;have I:a<4:=by omega
 have X:=Xv x e I
 refine aU ?_;refine bE (q:=a) eR rfl rfl rfl rfl rfl aa ?_;refine cE (vs:=(e.at_ a).enc) fF rfl rfl rfl (λV q Y Z Za=>by rw[Addr.add_lit,Addr.add_lit];exact q.e8 Has.head<|EH (so x a e) a I Y Z<|by rw[X];exact Za) ?_;refine av ?_;intro Zh Zi Zj;refine a6 ?_;refine bF (Ev · (e.at_ a) x)<|Xu (q:=a) eR rfl rfl rfl rfl aa ?_;refine fR (g:=e.g) (o:=6+a*2) (vs:=(nl (e.at_ a) x).enc) (xs:=mx<|so x a e) (te:=249) fF rfl rfl (by rw[Lu _ _ _ I];exact fs) rfl (y4 rfl rfl) (by show 6+a*2+2<=15;omega) ?_;refine aU ?_;exact bv (a+1) aa aa (po rfl rfl rfl rfl rfl rfl rfl rfl) λ_ h=>h.aF<|aP.cons c6<|aP.cons c6<|aP.cons c6<|aP.cons c6<|aP.cons c6 aP.nil;have Zb:a=e.bV:=by omega
 subst Zb;refine be ?_;exact bv (d+1) aa aa (da rfl rfl rfl rfl) λ_ h=>(ag.ES (z:=o5 x e) (by rw[bn.aq,show (o5 x e).g=e.g from ET x e _];exact h.aF<|aP.cons bx<|aP.cons bx<|aP.cons bx<|aP.cons bx<|aP.cons bx aP.nil) A rfl).aF<|aP.cons c6<|aP.cons c6<|aP.cons c6<|aP.cons bx aP.nil;intro M y;refine aX.cf ⟨f,w,o,c.map<|o5 x,k,l,m⟩ (yd.of u rfl (Xx x q) ?_) rfl ?_;unfold tV;rw[ai C];show (⟨_,_,_,_⟩ :gd)=⟨_,_,_,_⟩;rw[Xw x q,E];rfl
 rw[LD aa] at y;simp only[du,dp.aq,tW,LE (f:=o5 x) (ET x · _),c8];exact y.aF<|aP.cons c6<|aP.cons c6<|aP.cons c6 aP.nil
def LH(f:d.aq.pred n)(a:d.bV<=4):Rd c1 n (λb=>b=d.g) (some ⟨d.g,6,none⟩) d.bV 4 d.pl:=by
 refine⟨np d a,a,aW,λ_=>⟨_,rfl,rfl,λb l h i c j=>?_⟩⟩;have e:=(cH.1 c).1
 rw[np d a] at e
 rw[x8 d a e] at c
 cases c
 have k:n.heap[d.g]? = some (.cells (mx d).toArray 249 (0,0)):=f
 rw[Addr.add_lit,Addr.add_lit,cell_of_row n d.g _ _ _ (0,0) k];have:=EH d b aa h i j
 simpa [show c1.ax=2 from rfl] using this
def LI{l:List bn}:x6 (l.map bn.abs)=l.flatMap bn.pl:=by
 unfold x6;rw[List.flatMap_map];rfl
def LJ(c:hT a)(i:Nat): ((a.take i).flatMap bn.pl).length<=4*i:=by
 induction i with
 | zero=>simp
 | succ i e=>
  rw[hA,sw,b3];cases d:a[i]? with
  | none=>simp only[Option.toList_none,rj,gN];omega
  | some b=>
   have:=(c b<|cR d).2
   have f:=np b this
   simp only[rp,nA,rj,eZ];omega
def EU(v:p.aq.pred b)(o: (fp p.A p.c p.l).pred b)(q: (fQ p.l).pred b)(h:hT p.l)(K:p.l.length<=10000):ay 75 [ptr p.g] b
 (aX (λa:e7=>a.val) [] (λa=>[a.aD]) (λa=>a.l=x6 p.abs.blocks) b):=by
 have w:=A0 o
 have x:=LI (l:=p.l)
 refine ba func75 ntmps75 ?_;refine oI ?_;refine bb oD rfl rfl (λL y=>y.cc v (by (simp;done)) rfl) ?_;refine a7 ?_;refine dh (H':=ag b [] [e7.aD ⟨none,0,[]⟩]) (av ?_) (Sub.refl _) λM z=>z.e4 44 c1;refine cd (ι:=Nat × e7) (λd=>[(3,d.2.val),(11,.slice p.A p.l.length p.c),(12,ad (p.l.length:Int)),(13,ad (d.1 :Int))]) (λd=>ag b [] [d.2.aD]) (λd=>d.1<=p.l.length/\d.2.l=(p.l.take d.1).flatMap bn.pl) (λd=>p.l.length - d.1) ?_ ?_;exact λk m=>⟨(0,⟨none,0,[]⟩),⟨b4 _,rfl⟩,(da rfl rfl rfl rfl),m⟩
 rintro⟨i,a⟩ ⟨B,j⟩;dsimp only at B j ⊢
 have C:=LJ h i
 rw[<-j] at C
 refine (aE) (λD=>?_) λD=>cn ?_;obtain⟨e,n⟩ : ∃e,p.l[i]? = some e:=⟨_,bD aa⟩;have f:=cR n
 obtain⟨N,O,r⟩:=w.2.2 aa;have s:=o
 rw[r] at s
 have E: (p.l.take<|i+1).flatMap bn.pl=a.l++e.pl:=by rw[hA,n,sw,j];simp
 refine aH ?_;refine bE (q:=i) mK rfl rfl rfl r rfl aa<|bb ph rfl rfl (λP F=>F.ch (pY s n) au)<|aH ?_;refine bd (λG H=>A5 G e (H.ew (od q f) au) (h e f).2) ?_;refine rR (E:=c1) (src:=e.pl) (m:=a.l.length) (xs:=c1.all a.l) (F:=λI=>I=e.g) (a.l++e.pl).length (by rw[b3,np e (h e f).2]) eR rfl rfl rfl (λ_=>by exact cJ) (λk m=>(LH (od q f) (h e f).2).ext m.ext au) (by simp only[maxLen];have:=(h e f).2;omega) (by have:=(h e f).2;omega) λt u=>?_;refine aY ?_;exact bv (i+1,⟨t,u,a.l++e.pl⟩) ⟨aa,E.symm⟩ bL b5 λk J=>(show ag b [] [own 44 c1.ax (.slice t (a.l++e.pl).length u) (a.l++e.pl).length (c1.all<|a.l++e.pl)] k from b1.all_append c1 a.l e.pl▸J).aF ah;exact jG a (by rw[j,eT aa];exact x.symm)
structure nq (e z:bn):Prop where
 g:z.g=e.g
 bV:z.bV=e.bV
 id:z.id=e.id
 dir:z.dir=e.dir
 line:z.line=e.line
 pos: (∀k,k<e.bV->fm (e.at_ k))-> ∀k,k<e.bV->fm (z.at_ k)
def nq.refl(e:bn):nq e e:=⟨rfl,rfl,rfl,rfl,rfl,λa=>a⟩
def nq.trans{a b c:bn}(d:nq a b)(e:nq b c):nq a c:=⟨e.g.trans d.g,e.bV.trans d.bV,e.id.trans d.id,e.dir.trans d.dir,e.line.trans d.line,λf h i=>e.pos (λj k=>d.pos f j<|d.bV▸k) h<|d.bV.symm▸i⟩
def XA(i:T.length<=u.bV)(k:u.bV<=4)(b: ∀j∈T,fm j): ∃z,nq u z/\dJ (mx u) 6 (c1.all T)=mx z:=by
 rcases T with _ | ⟨e,_ | ⟨f,_ | ⟨g,_ | ⟨h,_ | ⟨l,T⟩⟩⟩⟩⟩
 exact⟨u,nq.refl u,rfl⟩;refine⟨{ u with cG:=e },⟨rfl,rfl,rfl,rfl,rfl,λc a d=>?_⟩,rfl⟩;match a,(show a<4 by omega) with
 | 0,_=>exact b e au
 | 1,_=>exact c 1 d
 | 2,_=>exact c 2 d
 | 3,_=>exact c 3 d
 refine⟨{ u with cG:=e,dY:=f },⟨rfl,rfl,rfl,rfl,rfl,λc a d=>?_⟩,rfl⟩;match a,(show a<4 by omega) with
 | 0,_=>exact b e au
 | 1,_=>exact b f au
 | 2,_=>exact c 2 d
 | 3,_=>exact c 3 d
 refine⟨{ u with cG:=e,dY:=f,fe:=g },⟨rfl,rfl,rfl,rfl,rfl,λc a d=>?_⟩,rfl⟩;match a,(show a<4 by omega) with
 | 0,_=>exact b e au
 | 1,_=>exact b f au
 | 2,_=>exact b g au
 | 3,_=>exact c 3 d
 refine⟨{ u with cG:=e,dY:=f,fe:=g,na:=h },⟨rfl,rfl,rfl,rfl,rfl,λc a d=>?_⟩,rfl⟩;match a,(show a<4 by omega) with
 | 0,_=>exact b e au
 | 1,_=>exact b f au
 | 2,_=>exact b g au
 | 3,_=>exact b h au
 simp only[dV] at i;omega
structure lV (l M:List bn):Prop where
 len:M.length=l.length
 at_: ∀(k:Nat)(e z:bn),l[k]? = some e->M[k]? = some z->nq e z
def lV.refl(l:List bn):lV l l:=⟨rfl,λd b e c a=>by rw[c] at a;cases a;exact nq.refl b⟩
def lV.get(c:lV a F)(e:a[r]? = some d): ∃z,F[r]? = some z/\nq d z:=by
 have b:=(cH.1 e).1
 rw[<-c.len] at b
 exact⟨F[r],bD b,c.at_ r d _ e<|bD b⟩
def lV.map(d:lV a F)(f:bn->U)(g: ∀b c,nq b c->f c=f b):F.map f=a.map f:=by
 apply jY
 intro h;rw[fw,fw];cases e:a[h]? with
 | none=>rw[hK (by rw[d.len];exact List.getElem?_eq_none_iff.1 e)]
 | some b=>
  obtain⟨c,i,j⟩:=d.get e;rw[i];exact a_ some<|g b c j
def lV.set(c:lV a F)(g:F[r]? = some d)(h:nq d w):lV a (F.set r w):=by
 refine⟨by rw[gx];exact c.len,λi e j f b=>?_⟩;rw[nB] at b
 split at b
 rename_i k;subst k;split at b
 cases b
 exact (c.at_ r e d f g).trans h;cases b
 exact c.at_ i e j f b
def LK(c:d.bV<=4): (∀g∈d.pl,fm g)↔ ∀a,a<d.bV->fm (d.at_ a):=by
 constructor
 exact λe a b=>e _<|cR<|x8 d c b
 intro e g h;obtain⟨a,b⟩:=sz h;have f:=(cH.1 b).1
 rw[np d c] at f
 rw[x8 d c f] at b
 cases b
 exact e a f
def lV.ok{N:Int}{M:List bn}(e:lV t.l M)(b:gW t N):gW { t with l:=M } N:=by
 have k:hT M:=λa f=>by
  obtain⟨i,h⟩:=sz f;have c:=(cH.1 h).1
  rw[e.len] at c
  have:=e.at_ i _ a (bD c) h
  rw[this.bV];exact b.bV _<|sB c
 refine⟨⟨b.wf.most,?_,b.wf.ids,?_,?_,b.wf.dir⟩,k⟩;have:=b.wf.len
 simp only[dp.abs,c8] at this ⊢
 rw[e.len];exact this
 intro m n;obtain⟨a,f,rfl⟩:=ei.1 n;obtain⟨i,h⟩:=sz f;have c:=(cH.1 h).1
 rw[e.len] at c
 have d:=e.at_ i _ a (bD c) h
 have g:=b.wf.is _<|ei.2 ⟨_,sB c,rfl⟩
 have o:=b.bV _<|sB c
 have j:=k a f
 refine⟨?_,?_,?_,?_⟩;show 1<=a.pl.length/\a.pl.length<=4
 rw[np a j.2];exact j
 exact (LK j.2).2<|d.bV▸d.pos ((LK o.2).1 g.pos);show 1<=a.id/\a.id<=t.ids
 rw[d.id];exact g.id
 show a.dir.length<=256/\a.line.length<=256
 rw[d.dir,d.line];exact g.pX
 have d:=b.wf.sm
 have g: ((t.l.map bn.abs).map (·.id)).Pairwise (· < ·):=List.pairwise_map.2 d
 rw[o8,show ((λm=>m.id) ∘ bn.abs)=bn.id from rfl,<-e.map bn.id λp a f=>f.id] at g
 show (M.map bn.abs).Pairwise _
 rw[List.pairwise_map];exact List.pairwise_map.1 g
def lV.fp{l:List bn}(b:lV l a)(c:Option Addr)(d:Nat):fp c d a=fp c d l:=by
 show ip _ _ _ a.length _ (ln.all<|a.map bn.g)=_
 rw[b.len,b.map bn.g λf h e=>e.g]
def XB(b:World):Ending->World->Prop:=aX (λa:Int × dp=>ad a.1) (du p) (λa=>du a.2) (λa=>a.2.g=p.g/\a.2.most=p.most/\gW a.2 y) b
def LL{p:Prop}[Decidable p](a: (!decide p)=false):p:=by simpa using a
structure XC where
 i:Nat
 M:List bn
 A:Option Addr
 m:Nat
 c:Nat
 L:List bG
def XD(a:dp)(Zh:bc b (du a))(x:gW a j)(B:Option Addr)(n C:Nat)(o:List bG)(H:Rd c1 b (λh=>h∉aK (du a)) B n C o)(Zz:n<=1000000):ay 78 [ptr a.g,.slice B n C] b (XB a j b):=by
 have ZA:=x.len
 have U:=x.bV
 have ZB:=H.len
 refine bX func78 ntmps78 Zh ?_;refine gQ ?_;refine bK (l0:=[]) aP.nil (λZi I=>EU Zi a (I.has bw) (I.has cz) (I.has cW) U aa) λZC ZD=>aU ?_;refine rz rfl (λZj=>aY ?_) λZj=>bP ?_;exact λJ q=>aX.cf (1,a) ⟨rfl,rfl,x⟩ rfl<|q.aF<|aP.cons c6<|aP.cons c6<|aP.cons c6 aP.nil
 refine cd (ι:=Nat) (λf=>[(0,ptr a.g),(1,.slice B n C),(20,.slice B n C),(21,ad (n:Int)),(22,ad (f:Int))]) (λ_=>ag b (aK<|du a)<|du a) (λf=>f<=n/\ ∀h p,h<f->o[h]? = some p->dS p) (λf=>n - f) ?_ ?_;exact λV D=>⟨0,⟨b4 _,λh p y=>absurd y<|Nat.not_lt_zero h⟩,(en rfl rfl rfl rfl rfl),D.aF<|aP.cons c6<|aP.cons c6<|aP.cons c6 aP.nil⟩
 rintro f ⟨ZE,W⟩;refine aH ?_;refine rz rfl (λZk=>?_) λZk=>?_;obtain⟨v,X⟩ : ∃v,o[f]? = some v:=⟨o[f]'aa,bD _⟩;obtain⟨v2,Zl⟩ : ∃v2,0<f->o[f - 1]? = some v2:=⟨(o[f - 1]?).getD ⟨0,0⟩,λd=>by rw[bD aa];rfl⟩;obtain⟨ZF,Y,Z,Za⟩:=H.cells aa;have Zb:dS v-> ∀h p,h<f+1->o[h]? = some p->dS p:=λd h p y r=>by
  rcases Nat.lt_succ_iff_lt_or_eq.1 y with ab | ab
  exact W h p ab r;rw[ab,X] at r;cases r;exact d
 refine aU ?_;refine bE (q:=f) eR rfl rfl rfl Y rfl aa ?_;refine cE (vs:=v.enc) fF rfl rfl rfl (λK ab s N E=>ab.ch (Za f v s N X E)<|by simp only[block_add];exact Z) ?_;refine av ?_;intro ZG ZH ZI;refine aI ?_;refine fg [0] 2 [[(1,false,[2,3,4,5,6,7,8,9,10,11,12]),(13,false,[14,15])]] (_) mixed ak (λ_ q=>q.drew) (λ_ d=>d)<|ap ?_;refine bF (EJ · v)<|cv (_) (λ_ d=> .inr d) (λ_ d=>d) ?_;refine aA ?_;refine qm 30 rfl (λZm=>b6 ?_) λZm=>ap ?_;refine cv (λ_=>True) (λ_ d=> .inr ⟨.inr d,d⟩) (λ_ d=>bh)<|gQ ?_;exact λJ q=>aX.cf (1,a) ⟨rfl,rfl,x⟩ rfl<|q.aF<|aP.cons c6<|aP.cons c6<|aP.cons c6 aP.nil
 refine qm 33 rfl (λw=>?_) λw=>?_;have Zn:=bg w
 refine a7 ?_;refine aO rfl (λZo Zc=>bO rfl rfl (w)<|bE (q:=f - 1) eR rfl rfl rfl Y aa aa aJ) ?_;refine aO rfl (λZo Zc=>bO rfl rfl (w)<|cE (vs:=v2.enc) fF rfl rfl rfl (λK Zp s N E=>by subst Zp;exact Zc.ch (Za (f - 1) v2 s N (Zl aa) E)<|by simp only[block_add];exact Z) aJ) ?_;refine aA ?_;refine bO rfl rfl (w)<|bF (x1 · v v2)<|cv (λ_=>True) (λ_ d=> .inr ⟨.inr d,d⟩) (λ_ d=>bh) ?_;refine aI ?_;refine rz rfl (λZq=>b6 ?_) λZq=>aU ?_;exact λJ q=>aX.cf (1,a) ⟨rfl,rfl,x⟩ rfl<|q.aF<|aP.cons c6<|aP.cons c6<|aP.cons c6 aP.nil
 exact bv (f+1) ⟨aa,Zb<|LL bR⟩ aa (en rfl rfl rfl rfl rfl) λ_ d=>d.aF<|aP.cons c6<|aP.cons c6<|aP.cons c6 aP.nil;have Zn:=bm w
 refine aY ?_;refine e9 rfl rfl rfl (w)<|cv (λ_=>True) (λ_ d=> .inr ⟨.inr d,d⟩) (λ_ d=>bh)<|cn ?_;exact bv (f+1) ⟨aa,Zb<|LL bR⟩ aa (en rfl rfl rfl rfl rfl) λ_ d=>d.aF<|aP.cons c6<|aP.cons c6<|aP.cons c6 aP.nil;have ZJ:f=n:=by omega
 have Zr: ∀p∈o,dS p:=λp r=>by
  obtain⟨h,y⟩:=sz r;have:=(cH.1 y).1
  exact W h p aa y
 refine ft ?_;refine cd (ι:=XC) (λk=>[(1,.slice k.A k.m k.c),(47,.slice a.A a.l.length a.c),(48,ad (a.l.length:Int)),(49,ad (k.i:Int))]) (λk=>ag b (aK<|du a) [a.aq,fp a.A a.c a.l,fQ k.M]) (λk=>k.i<=a.l.length/\lV a.l k.M/\Rd c1 b (λh=>h∉aK (du a)) k.A k.m k.c k.L/\ ∀p∈k.L,dS p) (λk=>a.l.length - k.i) ?_ ?_;exact λV D=>⟨⟨0,a.l,B,n,C,o⟩,⟨b4 _,lV.refl _,H,Zr⟩,(da rfl rfl rfl rfl),D.aF<|aP.cons bx<|aP.cons bx<|aP.cons bx aP.nil⟩
 rintro⟨s,O,ZK,G,Zs,P⟩ ⟨E,z,F,Q⟩;dsimp only at E z F Q ⊢
 refine A1 (A:=a.A) (m:=a.l.length) (c:=a.c) cz λZt=>aH ?_;refine rz rfl (λZu=>?_) λZu=>b6 ?_;obtain⟨e,R⟩ : ∃e,a.l[s]? = some e:=⟨_,bD aa⟩;obtain⟨t,S,Zd⟩:=z.get R;obtain⟨Zv,Zw,Ze⟩:=Zt.2.2 aa;have T:=U e<|cR R
 rw[<-Zd.bV] at T
 have ZL:=F.cap
 have ZM:=F.len
 obtain⟨u,Zx⟩ : ∃u,u=min G t.bV:=⟨_,rfl⟩;obtain⟨Zf,Zg,Zy⟩:=XA t (P.take u) (by rw[dR];omega) T.2 λp r=>A3<|Q p<|hz r;refine EA (L:=O.map bn.aq) (c:=t.aq) (k:=s) pm (by rw[fw,S];rfl) ?_;refine aH ?_;refine bE (q:=s) mK rfl rfl rfl Ze rfl aa ?_;refine bb (v:=ptr t.g) ph rfl rfl (λK ab=>by rw[Zd.g];exact pY (show (fp (some ⟨Zv,Zw,none⟩) a.c a.l).pred K from Ze▸(ab.has (c:=fp a.A a.c a.l) hL)) R) ?_;refine aH ?_;refine cU (A5 · t · T.2)<|av ?_;refine Lp (E:=c1) (src:=P) (g:=t.g) (o:=6) (xs:=mx t) (te:=249) (F:=λh=>h∉aK (du a)) u Zx eR rfl rfl rfl (by rw[Zy];exact cJ) (λV D=>F.ext D.ext λ_ d=>d) (by show 6+t.bV*2<=15;omega) ?_;refine aH ?_;refine gp u G eR rfl rfl (.inl ⟨_,_,rfl,rfl,rfl⟩) (.inr ⟨rfl,rfl⟩) aa aa<|aY ?_;exact bv ⟨s+1,O.set s Zf,_,G - u,Zs - u,(P.take G).drop u⟩ ⟨by dsimp only;omega,z.set S Zg,F.cut aa<|cC _,λp r=>Q p<|hz<|kv r⟩ (by dsimp only;omega) (da rfl rfl rfl rfl) λ_ d=>(ag.EM (z:=Zf) (by rw[bn.aq,Zg.g];exact d.aF<|aP.cons bx<|aP.cons bx<|aP.cons bx<|aP.cons bx aP.nil) S).aF<|aP.cons c6<|aP.cons c6<|aP.cons bx aP.nil;intro J q;refine aX.cf (0,{ a with l:=O }) ⟨rfl,rfl,z.ok x⟩ rfl ?_;simp only[du,dp.aq,tW,z.fp,z.len];exact q.aF<|aP.cons bx<|aP.cons bx<|aP.cons bx aP.nil
