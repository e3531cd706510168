/- part 43 of the proof -/
import Derived.Test.YtnfmgboendlmaaaGreatDoorQ42
set_option linter.all false
namespace Go.Proofs.YtnfmgboendlmaaaGreatDoor.Mq
open RowKit Tryz
variable {P:Program}{n d:Nat}{ops:Array Oper}{Q:cN}{rest:List Oper}{l:Fr}{ty:TypeId}{pos:String}{bf:Array Edge}{b:World}{S:a1}{cs:List Chunk}
variable {p s:Int}{C:List Chunk}{x:List Value}{j w:List aL}{k:List bq}{h o r:Nat}{f u:Nat->Prop}{q:Operand}{c v:Option Addr}{m:TypeId}{B:World}{A:aL}{y:hR}(g:World)(i:Nat)(D:kq)
section
variable {S:List Nat}
def aaU{t:TypeId}(s:P.underlying ty=some (.pointer m))(u:Nat.blt d n=true)(j:bi l q=some (.slice c 0 h))(k: ∃f,Has cs<|aD f cI c h [])
 (o: ∀v,aM P n ops Q rest ((d,.pointer v)::l)<|ag b S cs):aM P n ops Q (⟨some d,.call ⟨.builtin .unsafeSliceData,#[q],#[t]⟩,ty,pos,bf,none⟩::rest) l (ag b S cs):=by
 refine iv u λA a p g=>?_
 obtain⟨f,k⟩:=k;have w:a.ownsRow 0 f 1 (.slice c 0 h) 0 (cI.all []):=g.has k
 rcases w.2 with ⟨e,_⟩ | ⟨i,B,x,e,_,y,_⟩
 injection e with e _ _
 subst e;have:=Lib.run_unsafeSliceData_nil (P:=P) (w:=a) #[t] ty 0 h
 exact⟨.pointer none,a,by simp[execOp,resolve,invoke,builtin,p q _ j,this],(o none).at g⟩;injection e with e _ z
 subst e z;by_cases r:h=0
 subst r;have:=Lib.run_unsafeSliceData_zero (P:=P) (w:=a) #[t] ty m s ⟨i,0,none⟩ 0 (f,x.size) (by simp[World.shape?,y])
 exact⟨_,a.alloc<|.view ⟨i,0,none⟩ m,by simp[execOp,resolve,invoke,builtin,p q _ j,this],(o<|some ⟨a.heap.size,0,none⟩).at<|g.keep<|Ext.alloc a _ _⟩;have:=Lib.run_unsafeSliceData_row (P:=P) (w:=a) #[t] ty ⟨i,0,none⟩ 0 h r
 exact⟨_,a,by simp[execOp,resolve,invoke,builtin,p q _ j,this],(o<|some ⟨i,0,none⟩).at g⟩
def aaV{H:World->Prop}{a:Operand}{t:TypeId}(e:Nat.blt d n=true)(f:bi l q=some (.pointer c))(g:bi l a=some (z0))
 (h:aM P n ops Q rest ((d,.string<|bs [])::l) H):aM P n ops Q (⟨some d,.call ⟨.builtin .unsafeString,#[q,a],#[t,m]⟩,ty,pos,bf,none⟩::rest) l H:=
 dB _ e (λj i b=>by
  have:=Lib.run_unsafeString_none (P:=P) (w:=i) t m ty c
  simp[execOp,resolve,invoke,builtin,b q _ f,b a _ g,this];rfl) h
end
def M6{o:Nat}(c:bc g [aG h x m,y.aD])(i:x[o+1]? = some y.val)(j:y.l≠[]):ay 43 [.pointer (some ⟨h,o,none⟩)] g
 (aX (λ_:Unit=>bU y.l) [aG h x m,y.aD] (λ_=>[]) (λ_=>True) g):=by
 obtain⟨k,a,b⟩:=y;have n:0<b.length:=sC.2 j
 obtain⟨d,p⟩:=xD (c.all (aD 5 cI k a b) au) n;subst p;have q:a≠0:=by
  have:=(hF<|c.all (aD 5 cI (some ⟨d,0,none⟩) a b) au).cap
  omega
 refine calls (n:=14) func43 rfl ntmps43 rfl ?_;refine dh (H':=ag g (aK [aG h x m,aD 5 cI (some ⟨d,0,none⟩) a b]) [aG h x m,aD 5 cI (some ⟨d,0,none⟩) a b]) (aH ?_) (Sub.refl _) c.start;refine bN [0,1,2,3,5,6,7,8,9] 2 [[(4,false,[]),(10,true,[11])]] ?_;refine ap ?_;refine aO rfl (λr e=>(bb oB rfl rfl (λs f=>by subst f;exact e.e8 bw i) aJ)) ?_;refine ap ?_;refine aO rfl (λr e=>(bb oB rfl rfl (λs f=>by subst f;exact e.e8 bw i) aJ)) ?_;refine ap ?_;refine TX rfl rfl q<|ap ?_;refine TY underlying197 ak j c6 rfl rfl rfl<|aU ?_;exact λu t=>aX.cf () bh rfl<|t.aF aP.nil
def aaW{o:Nat}{xs:List Value}{A:Option Addr}{c:Nat}(e:bc g [aG h xs m,aD 5 cI A c []])(d:xs[o+1]? = some (.slice A 0 c)):ay 43 [.pointer (some ⟨h,o,none⟩)] g
 (aX (λ_:Unit=> .string<|bs []) [aG h xs m,aD 5 cI A c []] (λ_=>[aG h xs m,aD 5 cI A c []]) (λ_=>True) g):=by
 refine bX func43 ntmps43 e ?_;refine aH ?_;refine bN [0,1,2,3,5,6,7,8,9] 2 [[(4,false,[]),(10,false,[11])]] ?_;refine ap ?_;refine aO rfl (λf a=>(bb oB rfl rfl (λi b=>by subst b;exact a.e8 bw d) aJ)) ?_;refine ap ?_;refine aO rfl (λf a=>(bb oB rfl rfl (λi b=>by subst b;exact a.e8 bw d) aJ)) ?_;refine ap ?_;refine aaU underlying197 rfl rfl ⟨_,cz⟩ λj=>ap ?_;refine aaV rfl rfl rfl<|aU ?_;exact bT () bh
section
variable {most:Int}{t:cA}{T cF:List aL}
def aaX(y:rc S T cF)(x:World)(g:Nat)(m:kq)(Y: ∀u,Ext (aK<|fq g m) x u->fJ u)(Zm:bc x (fq g m))(Zn:nw m){K:Option Addr}{n:Nat}(Z:Rd bW x f K n h j)(Zo: ∀i,f i->i∉aK (fq g m))
 {A:List bq} (Zp:kZ S A) {i:Nat} (Za:o<A.length/\o<100) (L:i<T.length) (Zq:Cut T i) (ZS:n<=100) (Zr: ∀e,e<n-> ∃d,j[e]? = some d/\T[i+e]? = some d/\d.r≠0) (Zb:Sem most t S (A.set o (fD T cF i,false)) m.on p s m.z.l) (Zs:m.z.l.length<=200000):
 ay 97 [ptr g,ad (o:Int),ad (i:Int),.slice K n h] x (aX (λ_:kq=> .tuple #[]) (fq g m) (fq g) (λz=>nw z/\z.b=m.b/\(∃Zt Zu,Sem most t S (A.set o (fD T cF<|i+n,false)) z.on Zt Zu z.z.l)/\z.z.l.length<=m.z.l.length+11+123*n) x):=by
 have ZT:=Z.len
 have ZU:=y.c2
 have ZV:=q6 (y:=(o:Int)) (x:=(i:Int)) aa aa
 obtain⟨b,ba,z,Zc⟩:=m;dsimp only at Zb Zs
 have Zv:=M3 y (Zp.set o _) (by rw[gx];exact Za.1) L Zb
 refine bX func97 ntmps97 Zm ?_;refine aI ?_;refine bK (l0:=fq g ⟨b,ba,z,Zc⟩) ah (λv q=>Fs v g ⟨b,ba,z,Zc⟩ (λu w=>Y u<|q.later ah w) (q.cb ah) Zn o i aa aa bL) λ⟨M,Zw,Zx,Zd⟩ N=>?_;obtain⟨Zy,Ze,Zf,O⟩:=N;dsimp only at Ze Zf O;subst Ze Zf
 refine be ?_;refine cd (ι:=Nat × kq) (λe=>[(0,ptr g),(14,.slice K n h),(15,ad (n:Int)),(16,ad (e.1 :Int))]) (λe=>ag x (aK<|fq g ⟨M,ba,z,Zd⟩)<|fq g e.2) (λe=>e.1<=n/\nw e.2/\e.2.b=M/\Sem most t S (A.set o (fD T cF<|i+e.1,false)) e.2.on o (mv T (i+e.1):Nat) e.2.z.l/\e.2.z.l.length<=z.l.length+11+123*e.1) (λe=>n - e.1) ?_ ?_;exact λu Zz=>⟨(0,⟨M,Zw,Zx,Zd⟩),⟨aa,Zy,rfl,by rw[sJ,nj Zq,O];exact Zv,by rw[O,b3];omega⟩,(da rfl rfl rfl rfl),Zz⟩
 rintro⟨e,⟨E,F,G,B⟩⟩ ⟨ZA,P,Zg,H,Zh⟩;dsimp only at ZA Zg H Zh
 subst Zg;refine (aE) (λZB=>?_) λZB=>?_;obtain⟨⟨Q,R,ZC,Zi⟩,ZD,U,ZE⟩:=Zr e aa;obtain⟨ZW,ZF,ZG,ZH⟩:=Z.at_ ZD;have V:=y.oi.c _<|cR U
 have ZI:=ue (a:=B) V.a
 have ZX:=uP Q
 have ZY:R.length<=32:=by
  rcases V.k with L | ⟨ZJ,_⟩
  rw[show R=[] from a_ aL.more L];simp
  exact ZJ.1
 dsimp only at ZI
 refine aH ?_;refine bE (q:=e) dj rfl rfl rfl ZF rfl aa ?_;refine cE (vs:=aL.enc ⟨Q,R,ZC,Zi⟩) gh rfl rfl rfl (λZZ N ZK ZL ZM=>N.ch (ZH ZK ZL ZM)<|by simp only[block_add];exact Zo _ ZG) ?_;refine av ?_;intro Z0 Z1 Z2;refine (aE) (λC=>?_) λC=>?_;simp only[cq] at C
 refine aI ?_;refine bK (l0:=fq g ⟨E,F,G,B⟩) ah (λv q=>Ft v g ⟨E,F,G,B⟩ (λu w=>Y u<|q.later ah w) (q.cb ah) P Zi V.a bL) λ⟨ey,W,I,ZN⟩ ZO=>ap ?_;obtain⟨ZP,Zj,Zk,D⟩:=ZO;dsimp only at Zj Zk D;subst Zj Zk
 refine bN [0,1,2,3,4,5] 2 [[(6,false,[]),(7,true,[])]] ?_;refine aY ?_;refine bF (wY · Q)<|ap ?_;refine bK (l0:=[aG ey [.pointer W,I.val] 104,I.aD]) ah (hargs:=rfl) (λv q=>o2 v (q.cb ah) (o:=0) (xs:=[.pointer W,I.val]) (ba:=W) (z:=I) rfl rfl ZP yv _<|by rw[D];simp only[b3];omega) λJ X=>?_;refine a7 ?_;refine bN [0,1,2,3,4,5] 1 [[(6,true,[])]] ?_;refine aY ?_;refine bK (l0:=[aG ey [.pointer (some ⟨ey,0,none⟩),J.val] 104,J.aD]) ah (hargs:=rfl) (λv q=>o2 v (q.cb ah) (o:=0) (xs:=[.pointer (some ⟨ey,0,none⟩),J.val]) (ba:=(some ⟨ey,0,none⟩)) (z:=J) rfl rfl (.inr rfl) yv _<|by rw[X,D];simp only[b3];omega) λZQ Zl=>?_;refine a6 ?_;exact bv (e+1,⟨ey,some ⟨ey,0,none⟩,ZQ,ZN⟩) ⟨by dsimp only;omega,.inr rfl,rfl,by dsimp only;rw[Zl,X,D];exact aaK y Za.1 U ZE C H,by dsimp only;rw[Zl,X,D];simp only[b3];omega⟩ bL b5 λ_ w=>w.aF ah;simp only[cq] at C
 refine aU ?_;exact bv (e+1,⟨E,F,G,B⟩) ⟨by dsimp only;omega,P,rfl,aaL y U (Decidable.not_not.1 C) H,by dsimp only;omega⟩ bL b5 λ_ w=>w.aF ah;have ZR:e=n:=by omega
 subst ZR;refine aI ?_;exact bT ⟨E,F,G,B⟩ ⟨P,rfl,⟨_,_,H⟩,Zh⟩
end
def aaY{u:Value}(a: (re A.at_)[h]? = some u): (bW.enc A)[3+h]? = some u:=by rw[<-ja];exact a
def dT.Bm{d:World}{S:List Nat}{e j:List Chunk}{rows:List bq}(k:dT B f c h o rows)(g:ag B S C d)(i: ∀a,f a->a∉S)(l:aP C e j):dT d (λa=>a∉aK e) c h o rows:=
 (k.iz.ext g.ext λa b=>i a b.1).d8 (λa b m=>i a b.1 (g.eU a (by
  obtain⟨o,n,p⟩:=er.1 m;exact er.2 ⟨o,l.perm.mem_iff.2<|by simp[n],p⟩) b.2))
section
variable {most:Int}{t:cA}{T:List aL}
def aaZ(m:rc S T (List.replicate T.length eo))(B:World)(p:Nat)(j:kq)(Zk: ∀A,Ext (aK<|fq p j) B A->fJ A)(Zy:bc B (fq p j))(Zz:nw j){Za:Option Addr}(G:Rd bW B f Za h o T)(U: ∀C,f C->C∉aK (fq p j))
 (Zl:kZ S k) {n:Nat} (Zb:k[n]? = some (List.replicate T.length eo,false)/\n<100) {Zm:Int} (ZA:Sem most t S k j.on Zm s j.z.l) (ZB:j.z.l.length<=162000):
 ay 40 [ptr p,ad (n:Int),.slice Za h o] B (aX (λ_:kq=> .tuple #[]) (fq p j) (fq p) (λq=>nw q/\q.b=j.b/\(∃H I,Sem most t S (k.set n (T,false)) q.on H I q.z.l)/\q.z.l.length<=j.z.l.length+134*h) B):=by
 have ZO:=G.len
 have ZP:=m.c2
 have Zn:=(cH.1 Zb.1).1
 have Zo:Sem most t S (k.set n (fD T (List.replicate T.length eo) 0,false)) j.on Zm s j.z.l:=by rw[aaO m.oi.rt m.rt,sc Zb.1];exact ZA
 obtain⟨Zc,Zp,q,Zq⟩:=j;dsimp only at Zo ZB
 refine bX func40 ntmps40 Zy ?_;refine aH ?_;refine cd (ι:=Nat × kq) (λg=>[(0,ptr p),(1,ad (n:Int)),(2,.slice Za h o),(6,ad (g.1 :Int))]) (λg=>ag B (aK<|fq p ⟨Zc,Zp,q,Zq⟩)<|fq p g.2) (λg=>g.1<=h/\Cut T g.1/\nw g.2/\g.2.b=Zc/\(∃H I,Sem most t S (k.set n (fD T (List.replicate T.length eo) g.1,false)) g.2.on H I g.2.z.l)/\g.2.z.l.length<=q.l.length+134*g.1) (λg=>h - g.1) ?_ ?_;exact λA ZC=>⟨(0,⟨Zc,Zp,q,Zq⟩),⟨aa,m.oi.rt.xZ,Zz,rfl,⟨_,_,Zo⟩,by dsimp only;omega⟩,(da rfl rfl rfl rfl),ZC⟩
 rintro⟨g,⟨J,K,L,D⟩⟩ ⟨ZD,V,Zd,Zr,⟨H,I,E⟩,ZE⟩;dsimp only at ZD V Zr E ZE
 subst Zr;refine (aE) (λZF=>?_) λZF=>?_;obtain⟨d,M⟩ : ∃d,T[g]? = some d:=⟨_,bD aa⟩;obtain⟨ZQ,Zs,Zt,Zu⟩:=G.at_ M;have N:=m.oi.c _<|cR M
 refine aU ?_;refine bK (l0:=[]) aP.nil (λO x=>aaT O (G.ext x.ext U) aa M) λi ZG=>aI ?_;obtain⟨Zv,ZR,Ze,ZH⟩:=ZG;have P:=aaR m.oi M Zv aa Ze ZH
 refine ap ?_;refine bE (q:=g) dj rfl rfl rfl Zs rfl aa<|av ?_;refine bb h_ rfl rfl (λZI Zf=>Zf.ch (Zu 0 _ rfl)<|by simp only[block_add];exact U _ Zt) ?_;refine (aE) (λQ=>?_) λQ=>?_;have Zw:=aaQ m.oi M Q aa Ze
 have ZS:=q6 (y:=(n:Int)) (x:=(g:Int)) aa aa
 have ZT:=ue (a:=D) N.a
 have ZU:=KS (n:=(i:Int)) aa
 refine aU ?_;refine bE (q:=g) dj rfl rfl rfl Zs rfl aa<|av ?_;refine cE (vs:=re d.at_) s3 rfl rfl rfl (λZI Zf y ZJ Zx=>Zf.ch (by rw[add_add];exact Zu (3+y) ZJ<|aaY Zx)<|by simp only[block_add];exact U _ Zt) ?_;refine bK (l0:=fq p ⟨J,K,L,D⟩) ah (λO x=>aaS O p ⟨J,K,L,D⟩ (λA u=>Zk A<|x.later ah u) (x.cb ah) Zd n g i aa aa aa d.at_ N.a bL) λ⟨ey,W,X,Zg⟩ Zh=>a6 ?_;obtain⟨Y,F,v,w⟩:=Zh;dsimp only at F v w
 have Z: ((g+i:Nat):Int)=(g:Int)+(i:Int):=by omega
 by_cases Zi:d.at_=fi
 rw[aB Zi] at v w
 subst F v;refine bv (g+i,⟨ey,W,X,Zg⟩) ⟨by dsimp only;omega,P,Y,rfl,⟨H,I,?_⟩,?_⟩ bL (by rw[Z];exact (da rfl rfl rfl rfl)) λ_ u=>u.aF ah;dsimp only;rw[w,eZ,Ws V aa (λC R=>by rw[Zw C R,N.blank Q,Zi];rfl) P];exact E;dsimp only;rw[w,eZ];omega
 rw[ai Zi] at v w
 subst F v;refine bv (g+i,⟨ey,W,X,d.at_⟩) ⟨by dsimp only;omega,P,Y,rfl,⟨(n:Int),(g:Int),?_⟩,?_⟩ bL (by rw[Z];exact (da rfl rfl rfl rfl)) λ_ u=>u.aF ah;dsimp only;rw[w];exact aaM m Zl Zn N.a V Zv aa (λC R=>by rw[Zw C R];exact a_ some<|N.blank Q) P E;dsimp only;rw[w];simp only[b3];omega
 have ZK:=G.cut (p:=g) (q:=g+i) aa aa
 have ZV:=G.cap
 have ZL: ∀y,y<g+i - g-> ∃e,((T.take<|g+i).drop g)[y]? = some e/\T[g+y]? = some e/\e.r≠0:=λy Zx=>by
  obtain⟨e,Zj⟩ : ∃e,T[g+y]? = some e:=⟨_,bD aa⟩;exact⟨e,by rw[ja,iu,aB aa];exact Zj,Zj,λZM=>Q<|(Ze y aa e Zj).1.2 ZM⟩
 refine a6 ?_;refine gp g (g+i) dj rfl rfl (.inl ⟨_,_,rfl,rfl,rfl⟩) (.inl ⟨_,_,rfl,rfl,aa⟩) aa aa ?_;refine bK (l0:=fq p ⟨J,K,L,D⟩) ah (hargs:=rfl) (λO x=>aaX m O p ⟨J,K,L,D⟩ (λA u=>Zk A<|x.later ah u) (x.cb ah) Zd (ZK.off aW x U ah) (λ_ R=>R) Zl ⟨Zn,Zb.2⟩ aa V aa ZL E bL) λ⟨ey,W,X,Zg⟩ Zh=>a6 ?_;obtain⟨Y,F,⟨ZW,ZX,v⟩,w⟩:=Zh;dsimp only at F v w
 have Z: ((g+i:Nat):Int)=(g:Int)+(i:Int):=by omega
 rw[show g+(g+i - g)=g+i by omega] at v
 subst F;exact bv (g+i,⟨ey,W,X,Zg⟩) ⟨by dsimp only;omega,P,Y,rfl,⟨_,_,v⟩,by dsimp only;omega⟩ bL (by rw[Z];exact (da rfl rfl rfl rfl)) λ_ u=>u.aF ah;have ZN:g=T.length:=by omega
 subst ZN;rw[aaP m.rt m.l] at E
 refine aI ?_;exact bT ⟨J,K,L,D⟩ ⟨Zd,rfl,⟨_,_,E⟩,by dsimp only;omega⟩
def aa0(Zc: ∀o,Ext (aK<|fq i D) g o->fJ o)(Zd:bc g (fq i D))(Ze:nw D){n m:Nat}(d:dT g f c n h k)(M: ∀N,f N->N∉aK (fq i D))(Zf:nv n m k)(ZI:134*m*n<=160800)(Zg:jo S)(ZJ: (m:Int)=S.bz.al)
 (A:Sem most t S (List.replicate n (List.replicate m eo,false)) D.on p s D.z.l) (Zh:D.z.l.length<=100):
 ay 39 [.slice c n h,.func (.func 40) #[ptr i] #[]] g (aX (λ_:kq=> .tuple #[]) (fq i D) (fq i) (λe=>nw e/\e.b=D.b/\(∃q u,Sem most t S k e.on q u e.z.l)/\e.z.l.length<=D.z.l.length+160800) g):=by
 obtain⟨ZK,ZL,Zi,O⟩:=Zf;obtain⟨j,v⟩ : ∃j,j=List.replicate n (List.replicate m eo,false):=⟨_,rfl⟩;have w:k.length=j.length:=by rw[v,hy,Zi]
 have Zj: ∀r∈j,r=(List.replicate m eo,false):=λr d=>by rw[v] at d;exact k6 d
 have Zk: ∀P,kZ S (km k j P):=λP=>⟨by rw[K4 w];omega,aa,λr d=>by
  rcases K5 d with d | d
  exact (O r d).2.2;rw[Zj r d]⟩
 rw[<-v] at A
 obtain⟨B,Q,e,R⟩:=D;dsimp only at A Zh
 refine bX func39 ntmps39 Zd ?_;refine aY ?_;refine cd (ι:=Nat × kq) (λa=>[(1,.func (.func 40) #[ptr i] #[]),(6,.slice c n h),(7,ad (n:Int)),(8,ad (a.1 :Int))]) (λa=>ag g (aK<|fq i ⟨B,Q,e,R⟩)<|fq i a.2) (λa=>a.1<=n/\nw a.2/\a.2.b=B/\(∃q u,Sem most t S (km k j a.1) a.2.on q u a.2.z.l)/\a.2.z.l.length<=e.l.length+134*m*a.1) (λa=>n - a.1) ?_ ?_;exact λo Zl=>⟨(0,⟨B,Q,e,R⟩),⟨aa,Ze,rfl,⟨p,s,by rw[K2];exact A⟩,by dsimp only;omega⟩,(da rfl rfl rfl rfl),Zl⟩
 rintro⟨a,⟨C,E,x,F⟩⟩ ⟨T,U,V,⟨q,u,y⟩,Zm⟩;dsimp only at T V y Zm
 subst V;have ZM:134*m*a<=134*m*n:=wv _ T
 refine (aE) (λZn=>?_) λZn=>?_;have ZN:134*m*(a+1)<=134*m*n:=wv _ aa
 have Zo:134*m*(a+1)=134*m*a+134*m:=Nat.mul_succ _ _
 obtain⟨⟨r,ZO⟩,G⟩ : ∃r,k[a]? = some r:=⟨_,bD aa⟩;obtain⟨ZP,Zp,Zq,Zr,Zs,Zt,Zu,H⟩:=d.at_ G;obtain⟨W,I,X⟩:=O _<|cR G;have Y:=H.len
 dsimp only at W I X Y H
 subst X;obtain rfl:Zq=r.length:=Y.symm;have Zv:j[a]? = some (List.replicate r.length eo,false):=by rw[v,sA,aB aa,I]
 have Zw:rc S r (List.replicate r.length eo):=⟨Zg,W,Es _,(aaN _).symm,aa,aa⟩
 refine aU ?_;refine bE (q:=a) dy rfl rfl rfl Zs rfl aa ?_;refine cE (vs:=[.slice Zp r.length Zr,.bool false]) gG rfl rfl rfl (λZQ Zx Zy Zz ZA=>Zx.ch (Zu Zy Zz ZA)<|by simp only[block_add];exact M _ Zt) ?_;refine av ?_;intro ZR ZS ZT;refine a6 ?_;refine k_ (l0:=fq i ⟨C,E,x,F⟩) (first:=[ptr i]) (cap:=[]) ah rfl rfl cL rfl (λZB J=>aaZ Zw ZB i ⟨C,E,x,F⟩ (λo K=>Zc o<|J.later ah K) (J.cb ah) U (H.off aW J M ah) (λ_ ZC=>ZC) (Zk a) ⟨Eq w Zv,aa⟩ y bL) λ⟨ey,ZD,Z,ZE⟩ ZF=>?_;refine aU ?_;obtain⟨ZG,Za,⟨ZU,ZV,L⟩,Zb⟩:=ZF;dsimp only at Za L Zb
 rw[Er w G] at L
 subst Za;have ZW:Z.l.length<=x.l.length+134*m:=by (rw[<-I];exact Zb)
 exact bv (a+1,⟨ey,ZD,Z,ZE⟩) ⟨by dsimp only;omega,ZG,rfl,⟨_,_,L⟩,by dsimp only;rw[Zo];omega⟩ bL (da rfl rfl rfl rfl) λ_ K=>K.aF ah;have ZH:a=k.length:=by omega
 rw[ZH,K3 w] at y
 refine aI ?_;exact bT ⟨C,E,x,F⟩ ⟨U,rfl,⟨_,_,y⟩,by dsimp only;omega⟩
def aa1(s: ∀d,Ext [] g d->fJ d){A:Option Addr}(j:dT g f A h o k)(e:nv h r k)(O:134*r*h<=160800)(B:jo S)(P: (r:Int)=S.bz.al)(Q:Sem most t S (List.replicate h (List.replicate r eo,false)) fi 0 0 []):
 ay 11 [.slice A h o,.agg ([z0,z0]).toArray] g (aX (λn:List UInt8=> .tuple #[bU n,z0]) [] (λ_=>[]) (λn=>n.length<=165000/\Sem most t S k fi 0 0 n) g):=by
 have Ze:=e.aC
 have Zf:=e.hm
 have Zg:=e.len
 obtain⟨fP,C⟩ : ∃fP,k[0]? = some fP:=⟨_,bD aa⟩;have R:kZ S k:=⟨aa,aa,λT j=>(e.c T j).2.2⟩
 refine ba func11 ntmps11 ?_;refine ap ?_;intro U Zh Zi;refine aU ?_;refine bd (λa u=>Bl a (j.ext u.ext au) C (e.c fP<|cR C).2.1)<|bP ?_;refine bd (λa u=>Fp a (j.ext u.ext au) e)<|gR ?_;refine bO rfl rfl (bJ aa)<|av ?_;refine bO rfl rfl (bJ aa)<|av ?_;refine bO rfl rfl (bJ aa)<|av ?_;refine hd rfl rfl (bJ aa) rfl<|b6 ?_;refine ff rfl ((bJ aa))<|aH ?_;intro v Zj Zk;refine aA ?_;intro i Zl Zm;refine a7 ?_;refine dh (H':=ag g []<|fq i ⟨v,none,iV,fi⟩++[aG U ([z0,z0]) 44]) (a7 ?_) (Sub.refl _) λZn V=>(V.e4 5 cI).aF ah;refine bK (l0:=fq i ⟨v,none,iV,fi⟩) ah (hargs:=rfl) (λa b=>aa0 a i ⟨v,none,iV,fi⟩ (λd m=>s d<|b.later ah m) (b.cb ah) (.inl rfl) (j.Bm b au ah) (λ_ W=>W) e O B P Q au) λ⟨D,E,w,x⟩ X=>ap ?_;obtain⟨Y,F,⟨Zo,Zp,G⟩,y⟩:=X;dsimp only at F G y;subst F
 have y:w.l.length<=160800:=by simpa using y
 refine ap ?_;refine bK (l0:=fq i ⟨D,E,w,x⟩) ah (λa b=>Ft a i ⟨D,E,w,x⟩ (λd m=>s d<|b.later ah m) (b.cb ah) Y fi mh bL) λ⟨H,I,J,Zq⟩ Z=>ap ?_;obtain⟨Za,K,L,p⟩:=Z;dsimp only at K L p;subst K L
 have Zr: (lq x fi).length<=87:=ue mh
 have Zs:=q6 (y:=0) (x:=0) aa aa
 refine aH ?_;refine bK (l0:=fq i ⟨H,I,J,_⟩) ah (λa b=>Fs a i ⟨H,I,J,fi⟩ (λd m=>s d<|b.later ah m) (b.cb ah) Za 0 0 aa aa<|by dsimp only;rw[p,b3];omega) λ⟨ey,Zb,z,Zt⟩ Zc=>?_;refine ap ?_;obtain⟨Zu,M,N,q⟩:=Zc;dsimp only at M N q;subst M N
 refine aI ?_;refine bK (l0:=[aG ey [.pointer Zb,z.val] 104,z.aD]) ah (λa b=>M6 a (b.cb ah) (o:=0) rfl<|by rw[q];simp[mu]) λ_ _=>?_;refine aH ?_;intro Zv Zd;refine aX.cf z.l ⟨?_,?_⟩ rfl<|Zd.aF aP.nil;rw[q,p];simp only[b3];omega
 rw[q,p];exact AV B R ⟨aa,aa⟩ ⟨aa,aa⟩<|yu mh G
end
structure jT where
 bt:Option Addr
 z:hR
 on:dH
abbrev jT.e(a:jT):List Value:= .pointer a.bt::a.z.val::re a.on
abbrev fE(a:jT):List Chunk:=[aG i a.e 133,a.z.aD]
def p3(a:jT):Prop:=a.bt=none\/a.bt=some ⟨i,0,none⟩
def Fu(b:jT)(c:dH)(d:List UInt8)(e:World):Ending->World->Prop:=aX (λ_:jT=> .tuple #[]) (fE i b) (fE i) (λa=>p3 i a/\a.on=c/\a.z.l=b.z.l++d) e
def Bn:pL (te:=133) 7 0 (t:=104):=by unfold pL;kernel_rfl
def Fv(a:jT)(m: ∀n,Ext (aK<|fE i a) g n->fJ n)(p:bc g (fE i a))(q:p3 i a)(d f:Int)(r:0<=d/\d<999)(s:0<=f/\f<999)(t:a.z.l.length<=1000000):
 ay 53 [ptr i,ad d,ad f] g (Fu i a a.on (mu d f) g):=by
 obtain⟨ba,z,h⟩:=a;have o:=q6 r s
 unfold mu at o
 simp only[b3,dV,gN] at o
 refine bX func53 ntmps53 p ?_;dsimp only at t
 refine bN [0,1,2,3,4,8,9] 3 [[(5,false,[6,7]),(10,false,[11,12]),(13,true,[])]] ?_;refine a6 ?_;refine bd (hargs:=rfl) (λb c=>qJ b (m b c.ext) _ aa)<|av ?_;refine aO rfl (λj k=>(eb rfl rfl rfl cg aJ)) ?_;refine aO rfl (λj k=>(eb rfl rfl rfl cg aJ))<|aA ?_;refine bd (hargs:=rfl) (λb c=>qJ b (m b c.ext) _ aa)<|av ?_;refine aO rfl (λj k=>(eb rfl rfl rfl cg aJ)) ?_;refine aO rfl (λj k=>(eb rfl rfl rfl cg aJ))<|aA ?_;refine bK (l0:=fE i ⟨ba,z,h⟩) ah (hargs:=rfl) (λb c=>o2 b (c.cb ah) (o:=0) (xs:=jT.e ⟨ba,z,h⟩) (ba:=ba) (z:=z) rfl rfl q Bn _<|by simp only[b3,dV,gN];omega) λu v=>?_;refine a7 ?_;exact bT ⟨some ⟨i,0,none⟩,u,h⟩ ⟨.inr rfl,rfl,v⟩
def M7(f:jT)(r: ∀j,Ext (aK<|fE i f) g j->fJ j)(t:bc g (fE i f))(o:p3 i f)(c:dH)(p:hc c)(u:f.z.l.length<=1000000):
 ay 52 [ptr i,.agg (re c).toArray] g (Fu i f c (lq f.on c) g):=by
 obtain⟨ba,z,h⟩:=f;have y:=bj.zY c
 dsimp only at u
 have q:=bj.CS p
 obtain⟨s,b⟩ : ∃s,(if h=c then [] else bj.lg c)=s:=⟨_,rfl⟩;have A:s.length<=500:=by (rw[<-b];split;exact b4 _;omega)
 refine bX func52 ntmps52 t ?_;refine ap ?_;intro B C D;refine ap ?_;refine bN [0,1,2,3,4] 1 [[(5,true,[6])]] ?_;refine aU ?_;refine bd (λk m=>by have a:=M5 k (λj a=>r j<|m.ext.eC a) h c p;rw[b] at a;exact a) ?_;refine aY ?_;refine BB rfl rfl rfl ?_;refine (aE) (λd=>aH ?_) λd=>aA ?_;refine eb rfl rfl rfl cg<|eb rfl rfl rfl cg ?_;refine bK (l0:=fE i ⟨ba,z,h⟩) ah (hargs:=rfl) (λk m=>o2 k (m.cb ah) (o:=0) (xs:=jT.e ⟨ba,z,h⟩) (ba:=ba) (z:=z) rfl rfl o Bn _<|by simp;omega) λv w=>?_;refine be ?_;intro x n;have d:=d
 exact eV ⟨some ⟨i,0,none⟩,v,c⟩ ⟨.inr rfl,rfl,by rw[w,lq,ai λa=>by rw[aB a] at b;exact d b.symm,tR,<-b,ai λa=>by rw[aB a] at b;exact d b.symm]⟩ n;intro x n;have d:=d
 exact eV ⟨ba,z,h⟩ ⟨o,Classical.byContradiction λa=>by (rw[ai a] at b;exact q<|b.trans<|by simpa using d),by rw[lq,aB<|Classical.byContradiction λa=>by (rw[ai a] at b;exact q<|b.trans<|by simpa using d),eZ]⟩ n
def aa2(f:jT)(x: ∀b,Ext (aK<|fE i f) g b->fJ b)(K:bc g (fE i f))(L:p3 i f)(n o:Int)(y:0<=n/\n<999)(A:0<=o/\o<999)(h:aL)(B:hc h.at_)(M:h.more.length<=32)(N:f.z.l.length<=900000):
 ay 51 [ptr i,ad n,ad o,.agg h.enc.toArray] g (Fu i f h.at_ (lq f.on h.at_++si n o h) g):=by
 obtain⟨ba,z,C⟩:=f;obtain⟨I,S,T,O⟩:=h;dsimp only at N M B
 have U:=q6 y A
 have V:=uP I
 have W:=ue (a:=C) B
 refine bX func51 ntmps51 K ?_;refine ap ?_;intro X Y Z;refine aU ?_;refine bK (l0:=fE i ⟨ba,z,C⟩) ah (λj a=>M7 j i ⟨ba,z,C⟩ (λb s=>x b<|a.later ah s) (a.cb ah) L O B bL) λ⟨t,u,v⟩ P=>a7 ?_;obtain⟨D,J,c⟩:=P;dsimp only at J c;subst J
 refine (aE) (λd=>?_) λd=>?_;have Q:=d
 simp only[cq] at d
 refine ap ?_;exact bT ⟨t,u,v⟩ ⟨D,rfl,by dsimp only;rw[si,aB d,eZ];exact c⟩;have Q:=d
 simp only[cq] at d
 refine (aE) (λk=>?_) λk=>?_;have R:=k
 simp only[cq] at k
 refine aI ?_;refine bK (l0:=fE i ⟨t,u,v⟩) ah (λj a=>Fv j i ⟨t,u,v⟩ (λb s=>x b<|a.later ah s) (a.cb ah) D n o y A<|by dsimp only;rw[c,b3];omega) λ⟨p,q,r⟩ E=>?_;refine aA ?_;obtain⟨F,w,m⟩:=E;dsimp only at w m;subst w
 refine a7 ?_;refine (dg) (o2 · · (o:=0) (xs:=jT.e ⟨p,q,r⟩) (ba:=p) (z:=q) rfl rfl F Bn [27,91,88] (by rw[m,c];simp only[b3,dV,gN];omega)) λG H=>?_;refine ap ?_;exact bT ⟨some ⟨i,0,none⟩,G,r⟩ ⟨.inr rfl,rfl,by dsimp only;rw[H,m,c,si,ai d,aB k];simp[x0]⟩;have R:=k
 simp only[cq] at k
 refine aI ?_;refine bK (l0:=fE i ⟨t,u,v⟩) ah (λj a=>Fv j i ⟨t,u,v⟩ (λb s=>x b<|a.later ah s) (a.cb ah) D n o y A<|by dsimp only;rw[c,b3];omega) λ⟨p,q,r⟩ E=>?_;refine aA ?_;obtain⟨F,w,m⟩:=E;dsimp only at w m;subst w
 refine bN [0,1,2,3,4,6,7] 2 [[(5,false,[8]),(9,true,[])]] ?_;refine a6 ?_;refine bF (wY · I)<|av ?_;refine aO rfl (λZa Zb=>(eb rfl rfl rfl cg aJ))<|aA ?_;refine bK (l0:=fE i ⟨p,q,r⟩) ah (hargs:=rfl) (λj a=>o2 j (a.cb ah) (o:=0) (xs:=jT.e ⟨p,q,r⟩) (ba:=p) (z:=q) rfl rfl F Bn _<|by rw[m,c];simp only[b3];omega) λG H=>?_;refine aI ?_;exact bT ⟨some ⟨i,0,none⟩,G,r⟩ ⟨.inr rfl,rfl,by dsimp only;rw[H,m,c,si,ai d,ai k];simp⟩
def aa3{y k:Int}(a:0<=y/\y<999)(b:0<=k/\k<999){c:aL}(d:c.more.length<=32): (si y k c).length<=47:=by
 have e:=q6 a b
 have f:=uP c.r
 unfold si;split
 simp
 split <;> simp only[b3,x0,dV,gN] <;> omega
def aa4{b :Nat}(t:Rd bW g f c b o j)(z:Rd bW g u v b r w)(K:b<=1000):ay 199 [.slice c b o,.slice v b r] g (il (.bool<|decide<|j=w) g):=by
 have L:=t.len
 have M:=z.len
 refine ba func199 ntmps199 ?_;refine dO ?_;refine ff rfl ((bJ au))<|bP ?_;refine cd (ι:=Nat) (λi=>[(0,.slice c b o),(1,.slice v b r),(12,ad (b:Int)),(13,ad (i:Int))]) (λ_=>ag g [] []) (λi=>i<=b/\ ∀a,a<i->j[a]? = w[a]?) (λi=>b - i) ?_ ?_;exact λN B=>⟨0,⟨b4 _,λa e=>by omega⟩,(da rfl rfl rfl rfl),B.aF aP.nil⟩
 rintro i ⟨O,A⟩;refine (aE) (λC=>?_) λC=>b6 ?_;obtain⟨x,l⟩ : ∃x,j[i]? = some x:=⟨_,bD aa⟩;obtain⟨y,n⟩ : ∃y,w[i]? = some y:=⟨_,bD aa⟩;obtain⟨P,D,Q,E⟩:=t.at_ l;obtain⟨R,F,S,G⟩:=z.at_ n;refine bP ?_;refine bN [0,1,2,3,4,5,6,7,8] 0 [[]] ?_;refine aA ?_;refine aO rfl (λm d=>(bE (q:=i) dj rfl rfl rfl D rfl aa aJ)) ?_;refine aO rfl (λm d=>(cE (vs:=x.enc) gh rfl rfl rfl (λH p a q e=>by subst p;exact d.ch (E a q e) au) aJ)) ?_;refine aA ?_;refine aO rfl (λm d=>(bE (q:=i) dj rfl rfl rfl F rfl aa aJ)) ?_;refine aO rfl (λm d=>(cE (vs:=y.enc) gh rfl rfl rfl (λH p a q e=>by subst p;exact d.ch (G a q e) au) aJ)) ?_;refine aO rfl (λm d=>(yt uA rfl rfl rfl ak (uL x y) aJ))<|ap ?_;refine cD rfl (λk=>?_) λk=>?_;simp only[cq] at k
 refine b6 ?_;exact λI s=>⟨by rw[bJ λJ=>k<|by rw[J,n] at l;exact (lw l).symm],s.ext⟩
 simp only[cq] at k
 refine aU ?_;exact bv (i+1) ⟨aa,λa e=>by (rcases fd a i with h | h;exact A a h;obtain rfl:a=i:=aa;rw[l,n,k])⟩ aa b5 λ_ h=>h.aF aP.nil;exact λI s=>⟨by rw[bI (jY λa=>by (rcases fd a i with h | h;exact A a h;rw[hK aa,hK aa]))],s.ext⟩
def M8{t x:Nat}(y:Rd bW g f c h o j)(z:Rd bW g u v h r w)(i: (aG t [.slice c h o] 37).pred g)(A: (aG x [.slice v h r] 37).pred g){d:Nat}(J:d<h)(k:Int):
 ay 200 [ad (d:Int),ad k,ptr t,ptr x] g (gu (λb:Bool=> .bool b) (λb=>b=true↔hv j d k\/hv w d k) g):=by
 have K:=y.len
 have L:=z.len
 obtain⟨a,n⟩ : ∃a,j[d]? = some a:=⟨_,bD aa⟩;obtain⟨b,p⟩ : ∃b,w[d]? = some b:=⟨_,bD aa⟩;obtain⟨M,B,N,C⟩:=y.at_ n;obtain⟨O,D,P,E⟩:=z.at_ p;have F:hv j d k↔a.half=k:=⟨λ⟨G,l,i⟩=>by rw[n] at l;cases l;exact i,λq=>⟨a,n,q⟩⟩
 have H:hv w d k↔b.half=k:=⟨λ⟨G,l,i⟩=>by rw[p] at l;cases l;exact i,λq=>⟨b,p,q⟩⟩
 rw[F,H];refine ba func200 ntmps200 ?_;refine aU ?_;refine bb j3 rfl rfl (λs e=>e.cc i au rfl)<|av ?_;refine bE (q:=d) dj rfl rfl rfl B rfl aa<|av ?_;refine bb bY rfl rfl (λs e=>e.ch (C 2 _ rfl) au)<|ap ?_;refine bl 14 rfl (λm=>?_) λm=>?_;have I:=bg m
 refine cn ?_;exact eN true (by simp[bg m]);have I:=bm m
 refine av ?_;refine bb j3 rfl rfl (λs e=>e.cc A au rfl)<|ap ?_;refine bE (q:=d) dj rfl rfl rfl D rfl aa<|ap ?_;refine bb bY rfl rfl (λs e=>e.ch (E 2 _ rfl) au)<|be ?_;exact eN (decide<|b.half=k) (by simp[bm m])
structure Fw (T F:List aL) (a b:Nat):Prop where
 aa5:T.take a=F.take a
 o7:Cut T a/\Cut F a
 aa6:T.drop b=F.drop b
 kk:Cut T b/\Cut F b
 le:a<=b/\b<=T.length
structure aa7 where
 a:Nat
 b:Nat
 ok:Bool
def aa8{r:Option Addr}{n c s:Nat}(E:Rd bW g f r n c j)(F:Rd bW g u v n s w)(Za:n<=1000)(T:dU j)(U:dU w):ay 118 [.slice r n c,.slice v n s] g
 (gu (λi:aa7=> .tuple #[ad (i.a:Int),ad (i.b:Int),.bool i.ok]) (λi=>if i.ok=true then Fw w j i.a i.b else w=j) g):=by
 have Zu:=E.len
 have Zv:=F.len
 refine ba func118 ntmps118 ?_;refine ap ?_;intro l Zw Zx;refine av ?_;intro m Zy Zz;refine cZ ?_;refine bO rfl rfl (bJ au)<|av ?_;refine bO rfl rfl (bJ au)<|av ?_;refine bO rfl rfl (bJ au)<|bd (λG k=>aa4 G (E.df k.ext) (F.df k.ext) Za)<|hd rfl rfl (bJ au) rfl ?_;refine (aE) (λJ=>be ?_) λJ=>ap ?_;exact eN ⟨0,0,false⟩<|J.symm;refine bN [0,1,2,3] 0 [[]] ?_;refine a6 ?_;refine cd (ι:=Nat) (λi=>[(2,ptr l),(3,ptr m),(7,ad (i:Int)),(8,ad (n:Int))]) (λ_=>ag g [] [aG m [.slice v n s] 37,aG l [.slice r n c] 37]) (λi=>i<=n/\ ∀e,e<i->w[e]? = j[e]?) (λi=>n - i) ?_ ?_;exact λZb K=>⟨0,⟨b4 _,λe p=>by omega⟩,(da rfl rfl rfl rfl),K.aF ah⟩
 rintro i ⟨ZA,L⟩;have V:i<n:=by
  rcases fd i n with h | h
  exact h;exact absurd (jY λe=>by (rcases fd e n with h | h;exact (L e aa).symm;rw[hK aa,hK aa])) J
 obtain⟨x,M⟩ : ∃x,j[i]? = some x:=⟨_,bD aa⟩;obtain⟨y,N⟩ : ∃y,w[i]? = some y:=⟨_,bD aa⟩;obtain⟨ZB,Zc,ZC,Zd⟩:=E.at_ M;obtain⟨ZD,Ze,ZE,Zf⟩:=F.at_ N;refine aA ?_;refine bN [0,1,2,3,4,5,6,7,8] 0 [[]] ?_;refine aA ?_;refine aO rfl (λq o=>(bE (q:=i) dj rfl rfl rfl Zc rfl aa aJ)) ?_;refine aO rfl (λq o=>(cE (vs:=x.enc) gh rfl rfl rfl (λO z e A p=>by subst z;exact o.ch (Zd e A p) au) aJ)) ?_;refine aA ?_;refine aO rfl (λq o=>(bE (q:=i) dj rfl rfl rfl Ze rfl aa aJ)) ?_;refine aO rfl (λq o=>(cE (vs:=y.enc) gh rfl rfl rfl (λO z e A p=>by subst z;exact o.ch (Zf e A p) au) aJ)) ?_;refine aO rfl (λq o=>(rC uA rfl rfl rfl ak (uL x y) aJ)) ?_;refine (aE) (λk=>a6 ?_) λk=>aU ?_;exact bv (i+1) ⟨aa,λe p=>by (rcases fd e i with h | h;exact L e h;obtain rfl:e=i:=aa;rw[M,N,k])⟩ aa b5 λ_ h=>h.aF ah;have Zg:w[i]? ≠j[i]? :=λI=>k (by rw[M,N] at I;exact (lw I).symm)
 refine cd (ι:=Nat) (λd=>[(2,ptr l),(3,ptr m),(7,ad (i:Int)),(8,ad (d:Int))]) (λ_=>ag g [] [aG m [.slice v n s] 37,aG l [.slice r n c] 37]) (λd=>i<d/\d<=n/\ ∀e,d<=e->w[e]? = j[e]?) (λd=>d) ?_ ?_;exact λZb K=>⟨n,⟨V,cC _,λe p=>by rw[hK aa,hK aa]⟩,(da rfl rfl rfl rfl),K.aF ah⟩
 rintro d ⟨ZF,W,X⟩;obtain⟨Y,P⟩ : ∃x,j[d - 1]? = some x:=⟨_,bD aa⟩;obtain⟨Z,Q⟩ : ∃y,w[d - 1]? = some y:=⟨_,bD aa⟩;obtain⟨ZG,Zh,ZH,Zi⟩:=E.at_ P;obtain⟨ZI,Zj,ZJ,Zk⟩:=F.at_ Q;refine aA ?_;refine bN [0,1,2,3,4,5,6,7,8,9,10] 0 [[]] ?_;refine ap ?_;refine aO rfl (λq o=>(bE (q:=d - 1) dj rfl rfl rfl Zh aa aa aJ)) ?_;refine aO rfl (λq o=>(cE (vs:=Y.enc) gh rfl rfl rfl (λO z e A p=>by subst z;exact o.ch (Zi e A p) au) aJ)) ?_;refine ap ?_;refine aO rfl (λq o=>(bE (q:=d - 1) dj rfl rfl rfl Zj aa aa aJ)) ?_;refine aO rfl (λq o=>(cE (vs:=Z.enc) gh rfl rfl rfl (λO z e A p=>by subst z;exact o.ch (Zk e A p) au) aJ)) ?_;refine aO rfl (λq o=>(rC uA rfl rfl rfl ak (uL Y Z) aJ)) ?_;refine (aE) (λR=>a6 ?_) λR=>b6 ?_;have ZK:i≠d - 1:=λI=>Zg (by rw[I,P,Q,R])
 exact bv (d - 1) ⟨aa,aa,λe p=>by (rcases fd e d with h | h;obtain rfl:e=d - 1:=aa;rw[P,Q,R];exact X e h)⟩ aa (by rw[show ((d - 1 :Nat):Int)=(d:Int) - 1 by omega];exact b5) λ_ h=>h.aF ah;refine gA (λt:Nat=>[(2,ptr l),(3,ptr m),(7,ad (t:Int)),(8,ad (d:Int)),(9,.func (.func 200) #[] #[ptr l,ptr m])]) (λ_=>ag g [] [aG m [.slice v n s] 37,aG l [.slice r n c] 37]) (λt=>(0<i/\(hv j i 2\/hv w i 2))/\t=i - 1\/ ¬(0<i/\(hv j i 2\/hv w i 2))/\t=i) ?_ ?_;refine aI ?_;refine bl 49 rfl (λB=>?_) λB=>?_;have S:=bg B
 refine aI ?_;refine k_ (l0:=[]) (first:=[]) (cap:=[ptr l,ptr m]) aP.nil rfl rfl cL rfl (λG k=>M8 G (E.df k.ext) (F.df k.ext) (k.has (c:=aG l [.slice r n c] 37) cz) (k.has (c:=aG m [.slice v n s] 37) bw) V 2) λZl H=>ap ?_;refine cD rfl (λC=>aI ?_) λC=>av ?_;exact dN (i - 1) (.inl ⟨⟨aa,H.1 C⟩,rfl⟩) (by rw[show ((i - 1 :Nat):Int)=(i:Int) - 1 by omega];exact b5) λ_ h=>h.aF ah;exact dN i (.inr ⟨λh=>by (have:=H.2 h.2;rw[C] at this;cases this),rfl⟩) b5 λ_ h=>h.aF ah;have S:=bm B
 refine aY ?_;exact dN i (.inr ⟨λh=>absurd h.1 aa,rfl⟩) b5 λ_ h=>h.aF ah;rintro t Zm;refine aA ?_;refine gA (λD:Nat=>[(2,ptr l),(3,ptr m),(7,ad (t:Int)),(8,ad (D:Int))]) (λ_=>ag g [] [aG m [.slice v n s] 37,aG l [.slice r n c] 37]) (λD=>(d<w.length/\(hv j (d - 1) 1\/hv w (d - 1) 1))/\D=d+1\/ ¬(d<w.length/\(hv j (d - 1) 1\/hv w (d - 1) 1))/\D=d) ?_ ?_;refine aU ?_;refine bl 60 rfl (λB=>?_) λB=>?_;have S:=bg B
 refine aU ?_;refine k_ (l0:=[]) (first:=[]) (cap:=[ptr l,ptr m]) (vs:=[ad ((d - 1 :Nat):Int),ad 1]) aP.nil rfl rfl cL (by rw[show ((d - 1 :Nat):Int)=(d:Int) - 1 by omega];rfl) (λG k=>M8 G (E.df k.ext) (F.df k.ext) (k.has (c:=aG l [.slice r n c] 37) cz) (k.has (c:=aG m [.slice v n s] 37) bw) aa 1) λZl H=>?_;refine ap ?_;refine cD rfl (λC=>aI ?_) λC=>av ?_;exact dN (d+1) (.inl ⟨⟨aa,H.1 C⟩,rfl⟩) b5 λ_ h=>h.aF ah;exact dN d (.inr ⟨λh=>by (have:=H.2 h.2;rw[C] at this;cases this),rfl⟩) b5 λ_ h=>h.aF ah;have S:=bm B
 refine a6 ?_;exact dN d (.inr ⟨λh=>absurd h.1 aa,rfl⟩) b5 λ_ h=>h.aF ah;rintro D W;obtain⟨Zn,Zo,Zp⟩:=Wv U T L Zm;obtain⟨Zq,Zr,Zs,Zt⟩:=Ww U T aa ⟨aa,aa⟩ X W;refine b6 ?_;exact eN ⟨t,D,true⟩<|show Fw w j t D from ⟨Zn,⟨Zo,Zp⟩,Zq,⟨Zr,Zs⟩,aa,Zt⟩
