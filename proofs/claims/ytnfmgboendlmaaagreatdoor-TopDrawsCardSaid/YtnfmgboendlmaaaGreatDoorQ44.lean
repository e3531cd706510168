/- part 44 of the proof -/
import Derived.Test.YtnfmgboendlmaaaGreatDoorQ43
set_option linter.all false
namespace Go.Proofs.YtnfmgboendlmaaaGreatDoor.Mq
open RowKit Tryz
variable {S:a1}
variable [Inhabited vP]{G:Code}{I:Fr}{C p:Int}{B k:List Chunk}{l:List Value}{h:List aL}{g:List bq}{b q v:Nat}{D f:Nat->Prop}{e y:Option Addr}{F:Program}{J:Prop}{x:TypeId}{A o:World}{u:aL}{M:bA}{z:bq}{N:cm}(a:World)(w:List aL)(K:bq)(d:Nat)(i:ck)(s:Nat)(E:jT)(j:bM)
def ag.aa9{w:World}{S:List Nat}{t:TypeId}(c:ag o S k w)(a: (aG b l t).pred o)(d:b∉S): (aG b l t).pred w:=(c.ext.block b ((aG b l t).low o a b<|by simp[aG]) d).trans a
def ag.aa_{S:List Nat}{l:List Chunk}{a:List Value}{t:TypeId}(c:ag o S k A)(d: (aG b a t).pred o)(e:b∉S)(f:aP k l B):b∉aK l:=λg=>e (c.eU b (by
 obtain⟨h,i,j⟩:=er.1 g;exact er.2 ⟨h,f.perm.mem_iff.2<|by simp[i],j⟩)<|(aG b a t).low o d b<|by simp[aG])
def ag.aba{S:List Nat}{c l l2:List Chunk}(d:ag o S k A)(e:aP k l B)(f:aP B l2 c)(g:b∈aK l):b∉aK l2:=λh=>by
 have a:=(d.perm e.perm).nodup
 rw[jb,gO] at a
 obtain⟨i,j,m⟩:=er.1 h;exact a.2.2 b g b (er.2 ⟨i,f.perm.mem_iff.2<|by simp[j],m⟩) rfl
section
variable {most:Int}{t:cA}{T cF:List aL}
def abb(n:rc S T cF)(r:World)(i:Nat)(j:jT)(Zi: ∀x,Ext (aK<|fE i j) r x->fJ x)(Zj:bc r (fE i j))(Zk:p3 i j){Q:Nat->Prop}{R :Nat}(U:dT r Q e R q g)(V: ∀W,Q W->W∉aK (fE i j))(Zl: (aG v [.slice e R q] 30).pred r)(Zm:v∉aK (fE i j))
 {u:List bq} (Zn:kZ S u) {m w b:Nat} (X:g[m]? = some (T,false)) (Y:u[m]? = some (cF,false)/\m<100) (s:Fw T cF w b) (Zo:Sem most t S u j.on p C j.z.l) (Zp:j.z.l.length<=162000):
 ay 50 [ad (m:Int),ad (w:Int),ad (b:Int),ptr i,ptr v] r (aX (λ_:jT=> .tuple #[]) (fE i j) (fE i) (λo=>p3 i o/\(∃B D,Sem most t S (u.set m (T,false)) o.on B D o.z.l)/\o.z.l.length<=j.z.l.length+134*T.length) r):=by
 have ZT:=n.c2
 have Zq:=(cH.1 Y.1).1
 have Zr:=s.le
 have ZU:=U.len
 have ZV:=(cH.1 X).1
 have Z:Sem most t S (u.set m (fD T cF w,false)) j.on p C j.z.l:=by rw[K0 n.rt s.aa5 s.o7.1 s.o7.2,sc Y.1];exact Zo
 obtain⟨ZW,ZX,ZY,d,Zs,Zt,Zu,H⟩:=U.at_ X;have Zv:=H.len
 dsimp only at Zv H
 obtain⟨Za,o,Zb⟩:=j;dsimp only at Z Zp
 refine bX func50 ntmps50 Zj ?_;refine aU ?_;refine cd (ι:=Nat × jT) (λh=>[(0,ad (m:Int)),(2,ad (b:Int)),(3,ptr i),(4,ptr v),(8,ad (h.1 :Int))]) (λh=>ag r (aK<|fE i ⟨Za,o,Zb⟩)<|fE i h.2) (λh=>w<=h.1/\h.1<=b/\p3 i h.2/\(∃B D,Sem most t S (u.set m (fD T cF h.1,false)) h.2.on B D h.2.z.l)/\h.2.z.l.length<=o.l.length+134*(h.1 - w)) (λh=>b - h.1) ?_ ?_;exact λx Zw=>⟨(w,⟨Za,o,Zb⟩),⟨cC _,Zr.1,Zk,⟨_,_,Z⟩,by dsimp only;omega⟩,(en rfl rfl rfl rfl rfl),Zw⟩
 rintro⟨h,⟨I,J,E⟩⟩ ⟨Zx,Zy,Zc,⟨B,D,F⟩,Zz⟩;dsimp only at Zx Zy F Zz
 refine (aE) (λZA=>?_) λZA=>?_;obtain⟨⟨K,y,L,M⟩,N⟩ : ∃d,T[h]? = some d:=⟨_,bD aa⟩;obtain⟨ZZ,ZB,ZC,ZD⟩:=H.at_ N;have G:=n.oi.c _<|cR N
 have Zd:y.length<=32:=by
  rcases G.k with ZE | ⟨ZF,_⟩
  rw[show y=[] from a_ aL.more ZE];exact b4 _
  exact ZF.1
 have Z0:=aa3 (y:=(m:Int)) (k:=(h:Int)) (c:=⟨K,y,L,M⟩) aa aa Zd
 have ZG:=ue (a:=E) G.a
 dsimp only at ZG
 obtain⟨ZH,ZI,Ze⟩:=Wm n.f (Zn.set m _) n.oi n.rt n.l n.dL N (oo Zq)<|yu G.a F;rw[sI] at Ze
 refine aU ?_;refine bb sY rfl rfl (λZf A=>A.cc Zl Zm rfl)<|av ?_;refine bE (q:=m) dy rfl rfl rfl Zs rfl aa<|av ?_;refine bb j3 rfl rfl (λZf A=>A.ch (Zu 0 _ rfl)<|by simp only[block_add];exact V _ Zt) ?_;refine av ?_;refine bE (q:=h) dj rfl rfl rfl ZB rfl aa ?_;refine cE (vs:=aL.enc ⟨K,y,L,M⟩) gh rfl rfl rfl (λZf A ZJ ZK ZL=>A.ch (ZD ZJ ZK ZL)<|by simp only[block_add];exact V _ ZC) ?_;refine bK (l0:=fE i ⟨I,J,E⟩) ah (λZM Zg=>aa2 ZM i ⟨I,J,E⟩ (λx O=>Zi x<|Zg.later ah O) (Zg.cb ah) Zc m h aa aa ⟨K,y,L,M⟩ G.a Zd bL) λ⟨ZN,ZO,ZP⟩ ZQ=>aY ?_;obtain⟨ZR,Zh,P⟩:=ZQ;dsimp only at Zh P
 subst Zh;exact bv (h+1,⟨ZN,ZO,ZP⟩) ⟨by dsimp only;omega,by dsimp only;omega,ZR,⟨ZH,ZI,by dsimp only;rw[P,<-ec];exact Ze⟩,by dsimp only;rw[P];simp only[b3];omega⟩ bL b5 λ_ O=>O.aF ah;have ZS:h=b:=by omega
 subst ZS;rw[K1 n.rt s.aa6 s.kk.1 s.kk.2] at F
 refine aI ?_;exact bT ⟨I,J,E⟩ ⟨Zc,⟨_,_,F⟩,by dsimp only;omega⟩
def abc(Zl: ∀k,Ext (aK<|fE d E) a k->fJ k)(Zm:bc a (fE d E))(Zn:p3 d E){n m:Nat}{cF:List bq}(h:dT a f e n b g)(Zo:dT a f y n q cF)(o: ∀V,f V->V∉aK (fE d E))(W: (aG v [.slice e n b] 30).pred a)(X:v∉aK (fE d E))(Zp:nv n m g)(Zq:nv n m cF)(ZP:134*m*n<=160800)(Zr:jo S)(ZQ: (m:Int)=S.bz.al)
 (Y:Sem most t S cF E.on p C E.z.l) (Zs:E.z.l.length<=100):
 ay 49 [.slice y n q,.slice e n b,.func (.func 50) #[] #[ptr d,ptr v]] a (aX (λ_:jT=> .tuple #[]) (fE d E) (fE d) (λi=>p3 d i/\(∃s w,Sem most t S g i.on s w i.z.l)/\i.z.l.length<=E.z.l.length+160800) a):=by
 obtain⟨ZR,ZS,ZT,Z⟩:=Zp;obtain⟨_,_,ZU,Za⟩:=Zq;have x:g.length=cF.length:=by omega
 have Zt: ∀Zb,kZ S (km g cF Zb):=λZb=>⟨by rw[K4 x];omega,aa,λr h=>by
  rcases K5 h with h | h
  exact (Z r h).2.2;exact (Za r h).2.2⟩
 obtain⟨Zc,i,Zd⟩:=E;dsimp only at Y Zs
 refine bX func49 ntmps49 Zm ?_;refine bP ?_;rw[show min (n:Int) (n:Int)=(n:Int) by omega];refine cd (ι:=Nat × jT) (λc=>[(0,.slice y n q),(1,.slice e n b),(2,.func (.func 50) #[] #[ptr d,ptr v]),(16,ad (n:Int)),(17,ad (c.1 :Int))]) (λc=>ag a (aK<|fE d ⟨Zc,i,Zd⟩)<|fE d c.2) (λc=>c.1<=n/\p3 d c.2/\(∃s w,Sem most t S (km g cF c.1) c.2.on s w c.2.z.l)/\c.2.z.l.length<=i.l.length+134*m*c.1) (λc=>n - c.1) ?_ ?_;exact λk Zu=>⟨(0,⟨Zc,i,Zd⟩),⟨aa,Zn,⟨p,C,by rw[K2];exact Y⟩,by dsimp only;omega⟩,(en rfl rfl rfl rfl rfl),Zu⟩
 rintro⟨c,⟨I,A,J⟩⟩ ⟨Ze,L,⟨s,w,B⟩,Zv⟩;dsimp only at Ze B Zv
 have ZV:134*m*c<=134*m*n:=wv _ Ze
 refine (aE) (λZw=>?_) λZw=>?_;have ZW:134*m*(c+1)<=134*m*n:=wv _ aa
 have Zf:134*m*(c+1)=134*m*c+134*m:=Nat.mul_succ _ _
 obtain⟨⟨r,ZX⟩,D⟩ : ∃r,g[c]? = some r:=⟨_,bD aa⟩;obtain⟨⟨u,ZY⟩,K⟩ : ∃r,cF[c]? = some r:=⟨_,bD aa⟩;obtain⟨ZZ,Z0,m1,Z1,Zx,Zy,Zz,M⟩:=h.at_ D;obtain⟨Z2,Z3,m2,Z4,ZA,ZB,ZC,N⟩:=Zo.at_ K;obtain⟨O,Zg,Zh⟩:=Z _<|cR D;obtain⟨P,ZD,Zi⟩:=Za _<|cR K;have ZE:=M.len
 have ZF:=N.len
 dsimp only at O Zg Zh ZE M P ZD Zi ZF N
 subst Zh Zi;obtain rfl:m1=m:=by omega
 obtain rfl:m2=m1:=by omega
 have ZG:rc S r u:=⟨Zr,O,P.rt,aa,aa,aa⟩
 refine bP ?_;refine bN [0,1,2,3,4,5,6,7,8,9,10,11] 0 [[]] ?_;refine aA ?_;refine aO rfl (λQ F=>(bE (q:=c) dy rfl rfl rfl ZA rfl aa aJ))<|av ?_;refine aO rfl (λQ F=>(bb j3 rfl rfl (λZH R=>by subst R;exact F.ch (ZC 0 _ rfl)<|by simp only[block_add];exact o _ ZB) aJ)) ?_;refine aA ?_;refine aO rfl (λQ F=>(bE (q:=c) dy rfl rfl rfl Zx rfl aa aJ))<|av ?_;refine aO rfl (λQ F=>(bb j3 rfl rfl (λZH R=>by subst R;exact F.ch (Zz 0 _ rfl)<|by simp only[block_add];exact o _ Zy) aJ)) ?_;refine a6 ?_;refine bK (l0:=[]) aP.nil (λT j=>aa8 T (N.ext j.ext o) (M.ext j.ext o) aa P.rt O.rt) λ⟨Z5,Z6,ZI⟩ G=>be ?_;dsimp only at G
 cases ZI
 rw[ai aW] at G
 subst G;refine fa ?_;refine ff rfl ((bJ au))<|aU ?_;exact bv (c+1,⟨I,A,J⟩) ⟨by dsimp only;omega,L,⟨s,w,by dsimp only;rw[Wn x D K];exact B⟩,by dsimp only;rw[Zf];omega⟩ bL b5 λ_ H=>H.aF ah;rw[aB rfl] at G
 refine ft ?_;refine k_ (l0:=fE d ⟨I,A,J⟩) (first:=[]) (cap:=[ptr d,ptr v]) ah rfl rfl cL rfl (λT j=>abb ZG T d ⟨I,A,J⟩ (λk H=>Zl k<|j.later ah H) (j.cb ah) L (h.Bm j o ah) (λ_ ZJ=>ZJ) (j.aa9 W X) (j.aa_ W X ah) (Zt c) D ⟨Eq x K,aa⟩ G B bL) λ⟨ZK,Zj,ZL⟩ ZM=>?_;refine aU ?_;obtain⟨ZN,⟨Z7,Z8,U⟩,Zk⟩:=ZM;dsimp only at U Zk
 rw[Er x D] at U
 have Z9:Zj.l.length<=A.l.length+134*m2:=by (rw[<-Zg];exact Zk)
 exact bv (c+1,⟨ZK,Zj,ZL⟩) ⟨by dsimp only;omega,ZN,⟨_,_,U⟩,by dsimp only;rw[Zf];omega⟩ bL (en rfl rfl rfl rfl rfl) λ_ H=>H.aF ah;have ZO:c=g.length:=by omega
 rw[ZO,K3 x] at B
 refine aI ?_;exact bT ⟨I,A,J⟩ ⟨L,⟨_,_,B⟩,by dsimp only;omega⟩
def abd(x: ∀j,Ext [] a j->fJ j){c :Nat}{cF:List bq}(n:dT a f e b c g)(z:dT a f y b q cF)(k:nv b v g)(p:nv b v cF)(O:134*v*b<=160800)(F:jo S)(P: (v:Int)=S.bz.al)(Q:Sem most t S cF fi 0 0 []):
 ay 14 [.slice y b q,.slice e b c,.agg [z0,z0].toArray] a (aX (λr:List UInt8=> .tuple #[bU r,z0]) [] (λ_=>[]) (λr=>r.length<=165000/\Sem most t S g fi 0 0 r) a):=by
 have Zd:=k.aC
 have Ze:=k.hm
 have Zf:=k.len
 have Zg:=p.len
 obtain⟨fP,G⟩ : ∃fP,g[0]? = some fP:=⟨_,bD aa⟩;obtain⟨A,s⟩ : ∃A,cF[0]? = some A:=⟨_,bD aa⟩;have R:kZ S g:=⟨aa,aa,λT n=>(k.c T n).2.2⟩
 refine ba func14 ntmps14 ?_;refine ap ?_;intro B Zh Zi;refine av ?_;intro U Zj Zk;refine aU ?_;refine bd (λd m=>Bl d (z.ext m.ext au) s (p.c A<|cR s).2.1)<|be ?_;refine bd (λd m=>Bl d (n.ext m.ext au) G (k.c fP<|cR G).2.1)<|bP ?_;refine bd (λd m=>Fp d (z.ext m.ext au) p)<|aI ?_;refine bd (λd m=>Fp d (n.ext m.ext au) k)<|b6 ?_;refine bO rfl rfl (bJ au)<|av ?_;refine bO rfl rfl (bJ au)<|av ?_;refine bO rfl rfl (bJ au)<|av ?_;refine hd rfl rfl (bJ au) rfl<|av ?_;refine bO rfl rfl (bJ au)<|av ?_;refine bO rfl rfl (bJ au)<|av ?_;refine bO rfl rfl (bJ au)<|av ?_;refine hd rfl rfl (bJ au) rfl<|bP ?_;refine bO rfl rfl (bJ aa)<|av ?_;refine bO rfl rfl (bJ aa)<|av ?_;refine bO rfl rfl (bJ aa)<|av ?_;refine hd rfl rfl (bJ aa) rfl<|b6 ?_;refine ff rfl ((bJ aa))<|aI ?_;intro i Zl Zm;refine ap ?_;refine dh (H':=ag a []<|fE i ⟨none,iV,fi⟩++[aG B [.slice e b c] 30,aG U [z0,z0] 44]) (a7 ?_) (Sub.refl _) λZn V=>(V.e4 5 cI).aF ah;refine bK (l0:=fE i ⟨none,iV,fi⟩) ah (hargs:=rfl) (λd h=>abc d i ⟨none,iV,fi⟩ (λj o=>x j<|h.later ah o) (h.cb ah) (.inl rfl) (n.Bm h au ah) (z.Bm h au ah) (λ_ W=>W) (h.has (c:=aG B [.slice e b c] 30) cW) (h.aba (l:=[aG B [.slice e b c] 30]) (l2:=fE i ⟨none,iV,fi⟩) ah ah<|by simp[aK,aG]) k p O F P Q au) λ⟨H,C,D⟩ s=>ap ?_;obtain⟨X,⟨Zo,Zp,I⟩,E⟩:=s;dsimp only at I E
 have E:C.l.length<=160800:=by simpa using E
 refine aA ?_;refine bK (l0:=fE i ⟨H,C,D⟩) ah (λd h=>M7 d i ⟨H,C,D⟩ (λj o=>x j<|h.later ah o) (h.cb ah) X fi mh bL) λ⟨J,K,Zq⟩ Y=>ap ?_;obtain⟨Z,L,u⟩:=Y;dsimp only at L u;subst L
 have l2: (lq D fi).length<=87:=ue mh
 have Zr:=q6 (y:=0) (x:=0) aa aa
 refine aI ?_;refine bK (l0:=fE i ⟨J,K,_⟩) ah (λd h=>Fv d i ⟨J,K,fi⟩ (λj o=>x j<|h.later ah o) (h.cb ah) Z 0 0 aa aa<|by dsimp only;rw[u,b3];omega) λ⟨Za,M,Zs⟩ Zb=>?_;refine ap ?_;obtain⟨Zt,N,w⟩:=Zb;dsimp only at N w;subst N
 refine aA ?_;refine bK (l0:=fE i ⟨Za,M,fi⟩) ah (λd h=>M6 d (h.cb ah) (o:=0) rfl<|by rw[w];simp[mu]) λ_ _=>?_;refine aH ?_;intro Zu Zc;refine aX.cf M.l ⟨?_,?_⟩ rfl<|Zc.aF aP.nil;rw[w,u];simp only[b3];omega
 rw[w,u];exact AV F R ⟨aa,aa⟩ ⟨aa,aa⟩<|yu mh I
end
def Fx{c:cN}{H:World->Prop}(e: ∀a,H a->J)(f:J->dA F b G c I H):dA F b G c I H:=λa d=>f (e a d) a d
def jz :List aL:=(w.take d).map o3++w.drop d
def abe : (jz w d).length=w.length:=by simp[jz];omega
def M9{c:aL}(a:h[b]? = some c): (jz h b)[b]? = some c:=by
 have:=(cH.1 a).1
 unfold jz;rw[i_ (by simp;omega),ja];simp only[c8,dR];rw[show b+(b - min b h.length)=b by omega];exact a
def Fy(a:h[b]? = some u): (jz h b).set b (o3 u)=jz h (b+1):=by
 have d:=(cH.1 a).1
 have e: ((h.take b).map o3).length=b:=by simp;omega
 have c:=lY d
 rw[(cH.1 a).2] at c
 unfold jz;rw[List.set_append,ai aa,e,ov,c,nC,jH a,gF,ec];rfl
def M_(a:h[b]? = some u)(c:u.r=0\/u.half=3):jz h (b+1)=(jz h b).set b (hr u.at_.aq u.at_.aR):=by rw[<-Fy a,o3,aB c]
def abf(a:h[b]? = some u)(c: ¬(u.r=0\/u.half=3)):jz h (b+1)=jz h b:=by rw[<-Fy a,o3,ai c,sc<|M9 a]
abbrev Bo :bq:=(mw K.1,false)
def abg{c:Nat}(C:dT a f e b c g)(Zk:b<=1000)(G: ∀r∈g,r.1.length<=1000):ay 8 [.slice e b c] a (aX (λj:dz=>j.val) [] (λj=>[j.aD,j.cw]) (λj=>b2 j.l=g.map Bo) a):=by
 have Zl:=C.len
 refine ba func8 ntmps8 ?_;refine fT ?_;refine cd (ι:=Nat × dz) (λi=>[(3,i.2.val),(9,.slice e b c),(10,ad (b:Int)),(11,ad (i.1 :Int))]) (λi=>ag a [] [i.2.aD,i.2.cw]) (λi=>i.1<=b/\b2 i.2.l=(g.take i.1).map Bo) (λi=>b - i.1) ?_ ?_;exact λH v=>⟨(0,⟨none,0,[]⟩),⟨b4 _,rfl⟩,(da rfl rfl rfl rfl),(v.pG.e4 39 cx).aF ah⟩
 rintro⟨i,j⟩ ⟨I,o⟩;dsimp only at I o
 have Zm:j.l.length=i:=by
  have:=a_ List.length o
  simp only[b2,c8,dR] at this
  omega
 refine (aE) (λJ=>?_) λJ=>?_;obtain⟨⟨r,K⟩,w⟩ : ∃r,g[i]? = some r:=⟨_,bD aa⟩;obtain⟨Zn,D,E,d,L,Zo,M,x⟩:=C.at_ w;have N:=G _<|cR w
 have O:=x.len
 dsimp only at N O x
 refine aH ?_;refine bE (q:=i) dy rfl rfl rfl L rfl aa<|cE (vs:=[.slice D E d,.bool K]) gG rfl rfl rfl (λZp P h y F=>P.ch (M h y F) au)<|av ?_;intro Zq Zr Zs;refine aU ?_;refine hf (ι:=Value) (c':=λQ=>ep Q<|cX id r) (hargs:=rfl) (λR S=>Hb R _ D E d r (x.df S.ext) aa) λT _=>aI ?_;refine Fx (λU z=>Dq<|z.has (c:=ep T<|cX id r) bw) λV=>?_;obtain⟨k,m,rfl⟩:=V;have W:cX id r=b7 r:=ta r
 rw[W];have Zt:=hq r
 refine aU ?_;refine cd (ι:=Nat) (λh=>[(3,j.val),(9,.slice e b c),(10,ad (b:Int)),(11,ad (i:Int)),(6,.slice k (b7 r).length m),(18,.slice k (b7 r).length m),(19,ad ((b7 r).length:Int)),(20,ad (h:Int))]) (λh=>ag a [] [aD 81 bW k m (jz (b7 r) h),j.aD,j.cw]) (λh=>h<=(b7 r).length) (λh=>(b7 r).length - h) ?_ ?_;exact λH v=>⟨0,b4 _,(po rfl rfl rfl rfl rfl rfl rfl rfl),v.aF ah⟩
 intro h F;refine (aE) (λX=>?_) λX=>?_;obtain⟨⟨Y,Z,Za,p⟩,q⟩ : ∃d,(b7 r)[h]? = some d:=⟨_,bD aa⟩;have Zb:=M9 q
 have Zu:=Fy q
 have A:=abe (b7 r) h
 refine aU ?_;refine ik (E:=bW) (A:=k) (c:=m) (L:=jz (b7 r) h) (q:=h) bw dj rfl (by rw[A];rfl) rfl rfl aa λZv Zc=>?_;refine cE (vs:=aL.enc ⟨Y,Z,Za,p⟩) gh rfl rfl rfl (λU z Zd y Ze=>z.hG (E:=bW) (L:=jz (b7 r) h) bw Zc Zb Zd y Ze)<|av ?_;intro Zw Zx Zy;refine be ?_;refine bl 28 rfl (λs=>?_) λs=>?_;have Zf:=bg s
 refine dO ?_;refine ik (E:=bW) (A:=k) (c:=m) (L:=jz (b7 r) h) (q:=h) cz dj rfl (by rw[A];rfl) rfl rfl aa λZg B=>?_;refine ss (E:=bW) (L:=jz (b7 r) h) (q:=h) (a:=hr p.aq p.aR) gh rfl rfl B aa fs<|aU ?_
 (have t:=M_ q<|.inl<|bg s;exact bv (h+1) aa aa (po rfl rfl rfl rfl rfl rfl rfl rfl) λ_ n=>by rw[t];exact n.aF ah)
 have Zf:=bm s
 refine (aE) (λu=>?_) λu=>?_;simp only[cq] at u
 refine aY ?_;refine ik (E:=bW) (A:=k) (c:=m) (L:=jz (b7 r) h) (q:=h) cz dj rfl (by rw[A];rfl) rfl rfl aa λZg B=>?_;refine ss (E:=bW) (L:=jz (b7 r) h) (q:=h) (a:=hr p.aq p.aR) gh rfl rfl B aa fs<|aU ?_
 (have t:=M_ q<|.inr u;exact bv (h+1) aa aa (po rfl rfl rfl rfl rfl rfl rfl rfl) λ_ n=>by rw[t];exact n.aF ah)
 simp only[cq] at u
 refine aU ?_
 (have t:=abf q λZh=>Zh.elim (bm s) u;exact bv (h+1) aa aa (po rfl rfl rfl rfl rfl rfl rfl rfl) λ_ n=>by rw[t];exact n.aF ah)
 have Zi:jz (b7 r) h=mw r:=by unfold jz mw;rw[eT aa,List.drop_eq_nil_of_le aa,eZ]
 have Zj: (b7 r).length=(mw r).length:=by rw[K7,hq]
 rw[Zi];refine aI ?_;rw[Zj];refine a7 ?_;refine ef (E:=cx) ⟨k,m,false,mw r⟩ dy rfl rfl rfl rfl rfl λZz ZA ZB=>fu (E:=cx) dy rfl rfl rfl bx (λ_ _=>fs) cg cg λZC ZD=>aY ?_;refine bv (i+1,⟨_,_,j.l++[⟨k,m,false,mw r⟩]⟩) ⟨by dsimp only;omega,?_⟩ bL (da rfl rfl rfl rfl) λ_ n=>(ag.vD (l:=j.l) (g:=⟨k,m,false,mw r⟩)<|n.aF (l:=[j.cw,b_.aQ ⟨k,m,false,mw r⟩,aD 39 cx _ _<|j.l++[⟨k,m,false,mw r⟩]]) ah).aF ah;show (j.l++[_]).map b_.fI=_
 rw[gF,jH w,gF,<-o];rfl
 rw[eT aa] at o
 refine cn ?_;exact jG j o
def abh(w:World)(a:dQ)(o: (aZ<|cP a).pred w)(d:dx a){i:Nat}(e:a.rows[i]? = some z)(u:z.1.length<=1000000):ay 92 [ptr a.g,ad (i:Int)] w
 (aX (λb:b_=> .tuple #[.agg b.enc.toArray,.bool true]) [] (λb=>[b.aQ]) (λb=>b.fI=z) w):=by
 have N:=d.n
 have O:=d.len
 have P:=d.room
 have Q:=d.first
 have p:a.aq.pred w:=o _ au
 have y:a.s.aD.pred w:=o _ au
 have B:a.s.cw.pred w:=o _ au
 have R: (i:Int)<a.n:=by
  rw[pt] at e
  split at e
  omega
  cases e
 have S:=qy d (i:=i) aa aa
 obtain⟨g,f⟩ : ∃g,a.s.l[(e5 a i).toNat]? = some g:=⟨a.s.l[(e5 a i).toNat]'aa,bD _⟩;obtain⟨k,q⟩ : ∃k:Nat,e5 a i=k:=⟨(e5 a i).toNat,aa⟩;rw[q,gw] at f
 have C:=cR f
 have v:z=g.fI:=by
  rw[pt,aB aa,qz,q,gw,f] at e
  cases e;rfl
 have D:=xK B C
 have E:Rd cx w (λ_=>True) a.s.A a.s.l.length a.s.c a.s.l:=hF (e:=39) (E:=cx) y
 obtain⟨T,F,_,G⟩:=E.at_ f;have U:=(cH.1 f).1
 rw[v] at u
 refine ba func92 ntmps92 ?_;refine ap ?_;intro V W X;refine a6 ?_;refine bO rfl rfl (bJ aa)<|av ?_;refine bO rfl rfl (bJ aa)<|av ?_;refine bO rfl rfl (bJ aa)<|bd (λh j=>zd h a<|Chunk.df _ p j.ext) ?_;refine bO rfl rfl (bJ aa)<|av ?_;refine hd rfl rfl (bJ aa) rfl<|aA ?_;refine ff rfl ((bJ aa))<|ap ?_;refine bN [0,1,2,3,4,5] 3 [[(6,false,[7,8]),(9,true,[]),(10,true,[11])]] ?_;refine ap ?_;refine aO rfl (λx m=>(bb sY rfl rfl (λH r=>by subst r;exact m.cc p au rfl) aJ)) ?_;refine a7 ?_;refine bd (hargs:=rfl) (λh j=>Jy h a (Chunk.df _ p j.ext) (i:Int) (k:Int) aa aa aa q)<|cv (_) (λ_ t=> .inr t) (λ_ t=>t) ?_;refine aO rfl (λx m=>(bE (q:=k) dy rfl rfl rfl F rfl aa aJ)) ?_;refine aO rfl (λx m=>(cE (vs:=g.enc) gG rfl rfl rfl (λH r I J K=>by subst r;exact m.ch (G I J K) au) aJ)) ?_;refine aA ?_;refine hf (λh j=>Cp h _ _ _ _ g.cells g.cont (D.df j.ext) u) λb L=>?_;refine be ?_;refine iy results92 (c_.fx gG rfl cz rfl rfl) (c_.tmp rfl) λY M=>?_;exact eV b (L.trans v.symm) M
def abi(w:World)(a:bQ)(k: (aZ<|b9 a).pred w)(m:dx a.r)(V:a.s.l.length<=1000){row:bq}(h: (a.r.rows++b2 a.s.l)[b]? = some row)(p:row.1.length<=1000000):ay 35 [ptr a.g,ad (b:Int)] w
 (aX (λf:b_ × Bool=> .tuple #[.agg f.1.enc.toArray,.bool f.2]) [] (λf=>[f.1.aQ]) (λf=>f.1.fI=row) w):=by
 have W:=m.n
 have X:=m.len
 have Y:=m.room
 have i:a.aq.pred w:=k _ au
 have y: (aZ<|cP a.r).pred w:=k _ au
 have z:a.r.aq.pred w:=y _ au
 have C:a.s.aD.pred w:=k _ au
 have D:a.s.cw.pred w:=k _ au
 have E:a.r.rows.length=a.r.n.toNat:=lE a.r
 have F:=(cH.1 h).1
 simp only[b3,b2,c8] at F
 refine ba func35 ntmps35 ?_;by_cases Z:b<a.r.n.toNat
 have o:a.r.rows[b]? = some row:=by rw[om aa] at h;exact h
 refine ap ?_;intro G H I;refine aY ?_;refine bd (λe d=>oL e a (Chunk.df _ i d.ext)<|Chunk.df _ z d.ext) ?_;refine a6 ?_;refine bO rfl rfl (bI aa)<|av ?_;refine bO rfl rfl (bI aa)<|av ?_;refine mF rfl rfl (bI aa) rfl<|av ?_;refine e9 rfl rfl rfl (bJ aa)<|e9 rfl rfl rfl (bJ aa)<|e9 rfl rfl rfl (bJ aa)<|e9 rfl rfl rfl (bJ aa)<|hd rfl rfl (bJ aa) rfl<|gR ?_;refine bb Gh rfl rfl (λJ q=>q.cc i (by (simp;done)) rfl) ?_;refine av ?_;refine bK (l0:=[]) aP.nil (λe d=>abh e a.r (Chunk.df _ y d.ext) m o p) λt u=>?_;refine aU ?_;refine iy results35 (c_.fx gG rfl cz rfl rfl) (c_.tmp rfl) λK v=>?_;exact eV (t,true) u v;obtain⟨j,L⟩ : ∃j:Nat,j=b - a.r.n.toNat:=⟨_,rfl⟩;have o: (b2 a.s.l)[j]? = some row:=by rw[i_ aa,E,<-L] at h;exact h
 obtain⟨g,x⟩ : ∃g,a.s.l[j]? = some g:=⟨_,bD aa⟩;have M:=cR x
 have B:row=g.fI:=by rw[b2,fw,x] at o;cases o;rfl
 have N:=xK D M
 have O:Rd cx w (λ_=>True) a.s.A a.s.l.length a.s.c a.s.l:=hF (e:=39) (E:=cx) C
 obtain⟨Za,P,_,Q⟩:=O.at_ x;rw[B] at p
 refine ap ?_;intro G H I;refine aY ?_;refine bd (λe d=>oL e a (Chunk.df _ i d.ext)<|Chunk.df _ z d.ext) ?_;refine a6 ?_;refine bO rfl rfl (bI aa)<|av ?_;refine bO rfl rfl (bI aa)<|av ?_;refine mF rfl rfl (bI aa) rfl<|av ?_;refine bO rfl rfl (bI aa)<|av ?_;refine bO rfl rfl (bI aa)<|av ?_;refine bO rfl rfl (bI aa)<|bd (λe d=>oK e a<|Chunk.df _ i d.ext) ?_;refine bO rfl rfl (bI aa)<|av ?_;refine mF rfl rfl (bI aa) rfl<|aA ?_;refine e_ rfl ((bI aa))<|aI ?_;refine bb sY rfl rfl (λJ q=>q.cc i (by (simp;done)) rfl) ?_;refine av ?_;refine bE (q:=j) dy rfl rfl rfl P aa aa<|cE (vs:=g.enc) gG rfl rfl rfl (λZb R S T U=>R.ch (Q S T U) au)<|hf (λe d=>Hf e _ _ _ _ g.cells g.cont (N.df d.ext) p) λt u=>?_;refine aH ?_;refine iy results35 (c_.fx gG rfl cz rfl rfl) (c_.tmp rfl) λK v=>?_;exact eV (t,true) (u.trans B.symm) v
structure Fz (n m:Nat) (L:List bq):Prop where
 len:L.length=n
 aC:1<=n/\n<=30
 hm:2<=m/\m<=40
 c: ∀r∈L,r.1.length=m/\fA r.1
def FA(b: (eu d s j).pred a):ay 32 [ptr d] a (il (.bool j.use) a):=by
 obtain⟨g,h,c,i,k,l,m,n⟩:=j;refine ba func32 ntmps32 ?_;focus (cases c;all_goals (refine ft ?_;refine bb bY rfl rfl (λo e=>e.cc b (by (simp;done)) rfl) ?_;refine aY ?_;intro p f;exact⟨rfl,f.ext⟩))
def Na{v:Value}(a: (aG b l x).pred o)(c:l[q]? = some v):o.cell? ⟨b,q,none⟩=some v:=by
 have d:o.heap[b]? = some (.cells l.toArray x (0,0)):=a
 rw[cell_of_row o b q l.toArray x (0,0) d];simpa using c
def abj :own 81 8 (.slice (some ⟨d,0,none⟩) s s) s (gg [.int .i32 0,.string ByteArray.empty,z0,z0,z0,z0,z0,z0] s)=b_.aQ ⟨some ⟨d,0,none⟩,s,false,List.replicate s eo⟩:=by
 simp only[b_.aQ,ep,b_.val,hy,B_]
def abk : [.slice (some ⟨d,0,none⟩) s s,.bool false]=b_.enc ⟨some ⟨d,0,none⟩,s,false,List.replicate s eo⟩:=by
 simp only[b_.enc,hy]
def Nb(b:eP M)(a:z∈M.az.r.rows++b2 M.az.s.l): (z.1.length:Int)=M.az.al/\fA z.1:=by
 rcases dq.1 a with a | a
 exact⟨(b.ok.bz.oM z a).1,b.iB.p.2 z a⟩;exact⟨(b.ok.bz.wide z a).1,b.iB.p.1 z a⟩
def abl{w:World}(b: (aZ<|dl N).pred w): (aZ<|b9 N.az).pred w:=λc a=>Bb b c (by
 simp only[eJ,o9,or_false] at a ⊢
 rcases a with rfl | rfl | rfl | rfl | rfl <;> simp)
def abm(w:World)(a:cm){Zi:Int}(n:dn a b Zi)(L:bc w [cl a]):ay 9 [ptr a.g] w (aX (λf:dz=>f.val) [cl a] (λf=>[cl a,f.aD,f.cw]) (λf=> ∃Zj b,Fz Zj b<|b2 f.l) w):=by
 have Zk: (aZ<|dl a).pred w:=L.all _ au
 have v: ∀d,(ag w (aK [cl a]) [cl a] d)->(aZ<|dl a).pred d:=λd e=>e.all _ au
 by_cases Q:a.T.use=true
 obtain⟨R,S,U,D,t,⟨am,E,Zl,F,G,H,I,J⟩,V,W,X,Y,Z⟩:=a;obtain rfl:Zl=true:=Q;have m:eP am:=n.T.am
 have Za:=E_ m
 have Zb:=m.small
 have ZL:am.az.r.room=0:=n.T.room.2
 have Zm:am.az.r.rows=[]:=by
  have y: (am.az.r.rows.length:Int)<=am.az.r.room:=m.ok.bz.room.1
  exact jX aa
 refine bX func9 ntmps9 L ?_;refine a6 ?_;refine bd (λd e=>ym d _<|v d e) ?_;refine bd (λd e=>FA d _ _ _<|sq<|v d e) ?_;refine aY ?_;refine bb yP rfl rfl (λM z=>Na (og<|v M z) rfl)<|bd (λd e=>gl d _ _ _<|sq<|v d e) ?_;refine bd (hargs:=rfl) (λd e=>kc d _<|we (v d e) _ (show aZ (a8 am)∈_ by simp) _ au) ?_;refine la (lc:=dl ⟨R,S,U,D,t,⟨am,E,true,F,G,H,I,J⟩,V,W,X,Y,Z⟩) bx<| la (lc:=fl t D t.g ⟨am,E,true,F,G,H,I,J⟩) c6<| la (lc:=a8 am) pm<| (dg) (xL · am.az · m.g.r Za.1 Za.2 (by have:am.az.s.l.length<=30:=Zb.1;omega)) λf K=>?_
 refine aH ?_;intro ZM Zn;refine aX.cf f ⟨am.az.s.l.length,am.az.al.toNat,?_⟩ rfl<|(((Zn.close (l:=a8 am) ah).close (l:=fl t D t.g ⟨am,E,true,F,G,H,I,J⟩) ah).close (l:=dl ⟨R,S,U,D,t,⟨am,E,true,F,G,H,I,J⟩,V,W,X,Y,Z⟩) ah).aF ah;have y:1<=(b2 am.az.s.l).length:=m.ok.bz.rows.1
 have Zo:2<=am.az.al:=m.ok.bz.al.1
 have Zp: (b2 am.az.s.l).length=am.az.s.l.length:=c8 ..
 rw[K,Zm,mA];exact⟨Zp,aa,aa,λB q=>by have:=Nb m<|wr _ q;exact⟨aa,this.2⟩⟩;have m:=n.T.first
 have Zb:=n.small
 have ZN:=n.ring
 have ZO:=n.rw
 have Zc:=m.ok.bz
 have ZP:2<=a.az.al:=Zc.al.1
 have ZQ:=og Zk
 have ZR:a.g∉[]:=by simp
 obtain⟨o,Zq⟩ : ∃o:Nat,a.az.al=o:=⟨a.az.al.toNat,aa⟩;have ZS: (a.az.r.rows++b2 a.az.s.l).length=a.rows.toNat:=by
  have y:=lE a.az.r
  rw[b3,y,b2,c8];unfold cm.rows;omega
 have Zr: ∀k:Nat,(k:Int)<a.rows-> ∃u,(a.az.r.rows++b2 a.az.s.l)[k]? = some u/\u.1.length=o/\fA u.1:=λk ZT=>by
  have Zd:k<(a.az.r.rows++b2 a.az.s.l).length:=by omega
  have y:=Nb m<|sB Zd
  have Zo: (firstT a.T).az.al=a.az.al:=rfl
  exact⟨_,bD Zd,aa,y.2⟩
 have ZU:o<=40:=by omega
 refine bX func9 ntmps9 L ?_;refine a6 ?_;refine bd (λd e=>ym d _<|e.has (c:=cl a) bw) ?_;refine bd (λd e=>FA d _ _ _<|sq<|e.has (c:=cl a) bw) ?_;refine aA ?_;refine ff rfl ((by simpa using Q))<|be ?_;refine bK (l0:=[]) aP.nil (λd e=>YE d a n<|e.has (c:=cl a) bw) λ⟨i,ZV⟩ Zs=>fa ?_;obtain⟨Zt,Zu,Zv,Ze⟩:=Zs;dsimp only at Zt Zu Zv Ze
 have ZW:=n.Bf
 have ZX:1<=(b2 a.az.s.l).length:=Zc.rows.1
 have ZY: (b2 a.az.s.l).length=a.az.s.l.length:=c8 ..
 have ZZ:1<=a.oh.length:=XI n.i7 (by unfold cm.rows;omega)
 refine cd (ι:=Nat × dz) (λh=>[(0,ptr a.g),(3,h.2.val),(26,i.val),(27,ad (i.l.length:Int)),(28,ad (h.1 :Int))]) (λh=>ag w (aK [cl a]) [cl a,i.aD,h.2.aD,h.2.cw]) (λh=>h.1<=i.l.length/\h.2.l.length=h.1/\ ∀B∈b2 h.2.l,B.1.length=o/\fA B.1) (λh=>i.l.length - h.1) ?_ ?_;exact λZ0 Zw=>⟨(0,⟨none,0,[]⟩),⟨b4 _,rfl,by simp⟩,(en rfl rfl rfl rfl rfl),(Zw.pG.e4 39 cx).aF ah⟩
 rintro⟨h,f⟩ ⟨Zx,K,N⟩;dsimp only at Zx K N
 refine (aE) (λZy=>?_) λZy=>cn ?_;obtain⟨⟨Zf,Zz,ZA⟩,Zg⟩ : ∃x,i.l[h]? = some x:=⟨_,bD aa⟩;have ZB:=LT _ _ _ n.i7 _<|Ze _<|cR Zg
 dsimp only at ZB
 obtain⟨k,rfl⟩ : ∃k:Nat,Zf=k:=⟨Zf.toNat,aa⟩;obtain⟨u,ZC,ZD,ZE⟩:=Zr k aa;refine aH ?_;refine ik (E:=mz) (A:=i.A) (c:=i.c) (L:=i.l) (q:=h) cz qk rfl rfl rfl rfl aa λZ1 ZF=>cE (vs:=iI.enc ⟨k,Zz,ZA⟩) Gb rfl rfl rfl (λM z j ZG ZH=>z.hG (E:=mz) (L:=i.l) cz ZF Zg j ZG ZH)<|av ?_;intro Z2 Z3 Z4;refine aY ?_;refine bb yP rfl rfl (λM z=>Na (og<|z.has (c:=cl a) cz) rfl)<|bd (λd e=>pK d a.cB a.p.g a.T<|sq<|e.has (c:=cl a) cz)<|bd (λd e=>kc d (firstT a.T)<|yl<|e.has (c:=cl a) cz)<|aY ?_;refine bK (l0:=[]) aP.nil (λd e=>abi d a.az (abl<|e.has (c:=cl a) cz) m.g.r aa ZC aa) λ⟨x,Z5⟩ O=>a7 ?_;intro Zh Z6 Z7;refine aI ?_;dsimp only at O
 refine gA (λj:b_=>[(0,ptr a.g),(3,f.val),(9,ptr Zh),(26,i.val),(27,ad (i.l.length:Int)),(28,ad (h:Int))]) (λj=>ag w (aK [cl a]) [aG Zh j.enc 39,j.aQ,cl a,i.aD,f.aD,f.cw]) (λj=>j.cells.length=o/\fA j.cells) ?_ ?_;refine (aE) (λP=>?_) λP=>?_;simp only[cq] at P
 refine aA ?_;refine bd (λd e=>zf d a.az<|Bc<|e.has (c:=cl a) hL) ?_;refine sT o dj rfl rfl rfl Zq (by simp only[maxLen];omega) aa λZI Z8 Z9=>?_;refine ap ?_;exact dN ⟨some ⟨ZI,0,none⟩,o,false,List.replicate o eo⟩ ⟨hy ..,λc e=>by rw[k6 e];exact CU⟩ b5 (λ_ C=>by rw[<-abj,<-abk];exact C.aF ah);simp only[cq] at P
 refine av ?_;exact dN x ⟨by rw[show x.cells=u.1 from a_ Prod.fst O];exact ZD,by rw[show x.cells=u.1 from a_ Prod.fst O];exact ZE⟩ b5 λ_ C=>C.aF ah;rintro j ⟨ZJ,ZK⟩;refine a7 ?_;refine ef (E:=cx) ⟨_,_,_,_⟩ dy rfl rfl rfl rfl rfl λZaa Zab Zac=>fu (E:=cx) dy rfl rfl rfl bx (λ_ _=>j5) cg cg λZad Zae=>aY ?_;refine bv (h+1,⟨_,_,f.l++[j]⟩) ⟨by dsimp only;omega,by dsimp only;rw[b3,K];rfl,?_⟩ bL (en rfl rfl rfl rfl rfl) λ_ C=>(ag.vD (l:=f.l) (g:=j)<|C.aF (l:=[f.cw,j.aQ,cl a,i.aD,aD 39 cx _ _<|f.l++[j]]) ah).aF ah;dsimp only;rw[b2,gF];intro B q;rcases dq.1 q with q | q
 exact N B q;rw[e0.1 q];exact⟨ZJ,ZK⟩
 exact bT f ⟨i.l.length,o,⟨by rw[b2,c8];omega,aa,aa,N⟩⟩
def abn(b: (eu d s j).pred a):ay 62 [ptr d] a (il (bU j.cy) a):=by
 refine ba func62 ntmps62 ?_;refine gR ?_;refine bb oA rfl rfl (λf c=>c.cc b (by (simp;done)) rfl) ?_;refine aI ?_;exact λg e=>⟨rfl,e.ext⟩
def abo(b:i.aq.pred a):ay 124 [gT i.g] a (il (ad i.state) a):=by
 refine ba func124 ntmps124 ?_;refine gR ?_;refine bb bY rfl rfl (λe c=>c.cc b (by (simp;done)) rfl) ?_;refine aI ?_;exact λf d=>⟨rfl,d.ext⟩
def abp(d:i.aq.pred a)(e:i.h=eA):ay 203 [gT i.g] a (il (z0) a):=by
 have f:i.head.l=[]:=a_ fv.head e
 have j:i.inter.l=[]:=a_ fv.inter e
 have k:i.text.l=[]:=a_ fv.text e
 have p:i.head.l.length=0:=by rw[f];rfl
 have q:i.inter.l.length=0:=by rw[j];rfl
 have r:i.text.l.length=0:=by rw[k];rfl
 refine ba func203 ntmps203 ?_;refine aH ?_;refine bN [0,1,2,3,4,5,6,7,8,9,10,11,12,13,14,15,16,17] 0 [[]] ?_;refine ap ?_;refine aO rfl (λm b=>(bb oB rfl rfl (λn c=>by subst c;exact b.cc d (by (simp;done)) rfl) aJ)) ?_;refine a7 ?_;refine aO rfl (λm b=>(bb oB rfl rfl (λn c=>by subst c;exact b.cc d (by (simp;done)) rfl) aJ)) ?_;refine aI ?_;refine aO rfl (λm b=>(bb oB rfl rfl (λn c=>by subst c;exact b.cc d (by (simp;done)) rfl) aJ)) ?_;refine aY ?_;exact λs o=>⟨by rw[f,j,k];rfl,o.ext⟩
def abq(b:i.aq.pred a):ay 204 [Ds i.g] a (il (ad i.dec.fN) a):=by
 refine ba func204 ntmps204 ?_;refine gR ?_;refine bb bY rfl rfl (λe c=>c.cc b (by (simp;done)) rfl) ?_;refine aI ?_;exact λf d=>⟨rfl,d.ext⟩
def abr(d:i.aq.pred a)(e:i.h=eA)(f:i.dec.fN=0):ay 125 [gT i.g] a (il (z0) a):=by
 refine ba func125 ntmps125 ?_;refine fa ?_;refine bN [0,1,2,4,5,6] 2 [[(3,false,[]),(7,false,[8,9])]] ?_;refine aY ?_;refine bd (λb c=>abp b i (Chunk.df _ d c.ext) e) ?_;refine ap ?_;refine bd (λb c=>(f▸abq b i (Chunk.df _ d c.ext))) ?_;refine aY ?_;exact λk j=>⟨rfl,j.ext⟩
def abt(f: (eu d i.g j).pred a)(k:i.aq.pred a)(l:i.h=eA)(m:i.state=0)(n:i.dec.fN=0):ay 63 [ptr d] a (il (.bool true) a):=by
 refine ba func63 ntmps63 ?_;refine ft ?_;refine bb Gc rfl rfl (λo b=>b.cc f (by (simp;done)) rfl) ?_;refine av ?_;refine bd (λc e=>(m▸abo c i (Chunk.df _ k e.ext))) ?_;refine bP ?_;refine bb Gc rfl rfl (λo b=>b.cc f (by (simp;done)) rfl) ?_;refine av ?_;refine bd (λc e=>abr c i (Chunk.df _ k e.ext) l n) ?_;refine aY ?_;exact λq p=>⟨rfl,p.ext⟩
def abu(b: (eu d s j).pred a):ay 60 [ptr d] a (il (eh.tJ j.cr) a):=by
 refine ba func60 ntmps60 ?_;refine ap ?_;intro i k l;refine ft ?_;refine cE (vs:=[.int .u32 (j.cr:Int)]) NW rfl rfl rfl (λm c e f g=>c.kK (sz:=1) (o:=4) (xs:=n2 s j) b au rfl e f g)<|aI ?_;exact λn h=>⟨rfl,h.ext⟩
def abv{o:Nat}{xs:List Value}(c:bc a [aG b xs x])(d:o+2<=xs.length):ay 123 [.pointer (some ⟨b,o,none⟩)] a
 (aX (λ_:Unit=> .tuple #[]) [aG b xs x] (λ_=>[aG b ((xs.set o<|.pointer none).set (o+1)<|.slice none 0 0) x]) (λ_=>True) a):=by
 refine bX func123 ntmps123 c ?_;refine aI ?_;refine iN wI rfl rfl cJ rfl aa<|aH ?_;refine iN oB rfl rfl cJ rfl (by rw[gx];omega) ?_;refine aA ?_;exact bT () bh
def abw(c:1<=d/\d<=1000)(e:2<=s/\s<=1000):ay 10 [ad (d:Int),ad (s:Int)] a (il (.bool true) a):=by
 refine ba func10 ntmps10 ?_;refine be ?_;refine bO rfl rfl (bI aa)<|av ?_;refine bO rfl rfl (bI aa)<|av ?_;refine mF rfl rfl (bI aa) rfl<|av ?_;refine bO rfl rfl (bI aa)<|av ?_;refine bO rfl rfl (bI aa)<|av ?_;refine mF rfl rfl (bI aa) rfl<|av ?_;refine bO rfl rfl (bI aa)<|av ?_;refine bO rfl rfl (bI aa)<|av ?_;refine mF rfl rfl (bI aa) rfl<|aI ?_;exact λf b=>⟨by rw[bI aa],b.ext⟩
def abx(m:Rd bW a f e b q h)(o:Rd bW a D y b v h)(C:b<=1000):ay 54 [.slice e b q,.slice y b v] a (il (.bool true) a):=by
 have E:=m.len
 refine ba func54 ntmps54 ?_;refine dO ?_;refine ff rfl ((bJ au))<|a6 ?_;refine cd (ι:=Nat) (λc=>[(0,.slice e b q),(1,.slice y b v),(5,ad (c:Int))]) (λ_=>ag a [] []) (λc=>c<=b) (λc=>b - c) ?_ ?_;exact λF p=>⟨0,b4 _,(ed rfl rfl rfl),p.aF aP.nil⟩
 intro c G;refine (aE) (λr=>?_) λr=>b6 ?_;obtain⟨x,n⟩ : ∃x,h[c]? = some x:=⟨_,bD aa⟩;obtain⟨H,s,I,t⟩:=m.at_ n;obtain⟨J,u,K,w⟩:=o.at_ n;refine aI ?_;refine bN [0,1,2,3,4,5,6,7,8] 0 [[]] ?_;refine aA ?_;refine aO rfl (λg d=>(bE (q:=c) dj rfl rfl rfl s rfl aa aJ)) ?_;refine aO rfl (λg d=>(cE (vs:=x.enc) gh rfl rfl rfl (λz i j k l=>by subst i;exact d.ch (t j k l) au) aJ)) ?_;refine aA ?_;refine aO rfl (λg d=>(bE (q:=c) dj rfl rfl rfl u rfl aa aJ)) ?_;refine aO rfl (λg d=>(cE (vs:=x.enc) gh rfl rfl rfl (λz i j k l=>by subst i;exact d.ch (w j k l) au) aJ)) ?_;refine aO rfl (λg d=>(yt (r:=true) uA rfl rfl rfl ak ((uL x x).trans<|bI rfl) aJ))<|b6 ?_;exact bv (c+1) aa aa b5 λ_ A=>A.aF aP.nil;exact λL B=>⟨rfl,B.ext⟩
def aby(l:dT a f e b q g)(u:dT a D y b v g)(H:b<=1000)(w: ∀z∈g,z.1.length<=1000):ay 15 [.slice e b q,.slice y b v] a (il (.bool true) a):=by
 have I:=l.len
 refine ba func15 ntmps15 ?_;refine dO ?_;refine ff rfl ((bJ au))<|a6 ?_;refine cd (ι:=Nat) (λh=>[(0,.slice e b q),(1,.slice y b v),(5,ad (h:Int))]) (λ_=>ag a [] []) (λh=>h<=b) (λh=>b - h) ?_ ?_;exact λJ A=>⟨0,b4 _,(ed rfl rfl rfl),A.aF aP.nil⟩
 intro h K;refine (aE) (λB=>?_) λB=>b6 ?_;obtain⟨x,j⟩ : ∃x,g[h]? = some x:=⟨_,bD aa⟩;have L:=w x<|cR j
 obtain⟨M,N,C,O,m,P,n,o⟩:=l.at_ j;obtain⟨Q,R,m2,S,p,T,r,s⟩:=u.at_ j;have i:=o.len
 have U:=s.len
 obtain rfl:C=m2:=by omega
 refine aI ?_;refine bN [0,1,2,3,4,5,6,7,8,9,10,11,12,13,14,15,16,17,18,19,20,21] 1 [[(22,false,[23,24])]] ?_;refine aA ?_;refine aO rfl (λd c=>(bE (q:=h) dy rfl rfl rfl m rfl aa aJ))<|av ?_;refine aO rfl (λd c=>(bb pf rfl rfl (λk i=>by subst i;exact c.ch (n 1 _ rfl) au) aJ)) ?_;refine aA ?_;refine aO rfl (λd c=>(bE (q:=h) dy rfl rfl rfl p rfl aa aJ))<|av ?_;refine aO rfl (λd c=>(bb pf rfl rfl (λk i=>by subst i;exact c.ch (r 1 _ rfl) au) aJ)) ?_;refine aO rfl (λd c=>(F2 underlying4 rfl rfl rfl aJ))<|av ?_;refine aO rfl (λd c=>bO rfl rfl (au)<|gY rfl rfl aJ) ?_;refine aO rfl (λd c=>bO rfl rfl (au)<|gY rfl rfl aJ) ?_;refine aO rfl (λd c=>bO rfl rfl (au)<|bE (q:=h) dy rfl rfl rfl m rfl aa aJ) ?_;refine aO rfl (λd c=>bO rfl rfl (au)<|uw yQ rfl rfl aJ) ?_;refine aO rfl (λd c=>bO rfl rfl (au)<|bb j3 rfl rfl (λk i=>by subst i;exact c.ch (n 0 _ rfl) au) aJ) ?_;refine aO rfl (λd c=>bO rfl rfl (au)<|gY rfl rfl aJ) ?_;refine aO rfl (λd c=>bO rfl rfl (au)<|gY rfl rfl aJ) ?_;refine aO rfl (λd c=>bO rfl rfl (au)<|bE (q:=h) dy rfl rfl rfl p rfl aa aJ) ?_;refine aO rfl (λd c=>bO rfl rfl (au)<|uw yQ rfl rfl aJ) ?_;refine aO rfl (λd c=>bO rfl rfl (au)<|bb j3 rfl rfl (λk i=>by subst i;exact c.ch (r 0 _ rfl) au) aJ) ?_;refine aA ?_;refine bO rfl rfl (au)<|bd (λE t=>abx E (o.df t.ext) (s.df t.ext) aa)<|av ?_;refine aO rfl (λd c=>bO rfl rfl (au)<|yB rfl rfl aJ) ?_;refine aO rfl (λd c=>(hd rfl rfl au rfl aJ))<|b6 ?_;exact bv (h+1) aa aa b5 λ_ F=>F.aF aP.nil;exact λV G=>⟨rfl,G.ext⟩
abbrev i8 :List Chunk:=b0 d i.g (aZ<|eB i) j
def abz(t:bc a (i8 d i j))(c:cK d p b j)(u:j.buf.l=[]):ay 61 [ptr d] a
 (aX (λ_:bM=> .string<|bs []) (i8 d i j) (i8 d i) (λr=>cK d p b r/\r.abs=j.abs) a):=by
 obtain⟨e,f,h,k,m,s,⟨o,q,v⟩,n⟩:=j;obtain rfl:v=[]:=u;refine bX func61 ntmps61 t ?_;refine gR ?_;refine dE (aaW · (o:=6) (xs:=n2 i.g ⟨e,f,h,k,m,s,⟨o,q,[]⟩,n⟩) (A:=o) (c:=q) · rfl) λ_ _=>?_;refine aY ?_;refine (dg) (abv · (o:=6) (xs:=n2 i.g ⟨e,f,h,k,m,s,⟨o,q,[]⟩,n⟩) · (by exact ej rfl)) λ_ _=>?_;refine be ?_;exact λx w=>aX.cf ⟨e,f,h,k,m,none,iV,n⟩ ⟨⟨c.am,c.br,c.room,.inl rfl,c.cy,c.bu,b4 _,c.aQ,c.md⟩,rfl⟩ rfl<|(w.e4 5 cI).aF (l:=i8 d i ⟨e,f,h,k,m,none,iV,n⟩) ah
