/- part 40 of the proof -/
import Derived.Test.YtnfmgboendlmaaaGreatDoorQ39
set_option linter.all false
namespace Go.Proofs.YtnfmgboendlmaaaGreatDoor.Mq
open RowKit Tryz
variable [Inhabited vP]{n:Chunk}{O:Ending}{B f:Int}{D k:List Chunk}{m:List Nat}{J:List b_}{A b:Nat}{t:Type}{C e:World}{x:bA}{H:bG}{E c:bQ}{K:b_}{F:bq}{v:dQ}{w:dz}{I:e7}(a:World)(i:bA)(h:bQ)(j:Option Addr)(M:Nat->Prop)(d u:Nat)(o:Chunk)(y:bM)
def Y7(e:bc a (b9 h))(b c:Int)(k: ¬((1<=b/\b<=1000)/\2<=c/\c<=1000))(d:bG)(f:Value):ay 216 [ptr h.g,ad b,ad c,fc d,f] a
 (aX (λi:e7=> .tuple #[fc ⟨0,0⟩,.slice none 0 0,ad 1]) (b9 h) (λi=>b9 h) (λ_=>True) a):=by
 obtain⟨l,m⟩:=d;refine bX func216 ntmps216 e ?_;refine ap ?_;intro n o p;refine av ?_;intro q r s;refine dO ?_;refine bF (Aq · b c)<|aI ?_;refine e_ rfl (by simp;omega) ?_;refine be ?_;refine pe results216 (c_.fx fF rfl bw rfl rfl) (c_.tmp rfl) (c_.tmp rfl) λt j=>?_;exact eV (⟨none,0,[]⟩ :e7) bh j
def MJ(b:dF c.abs): (∀a∈c.r.rows,a.1.length<=1000000)/\ ∀a∈b2 c.s.l,a.1.length<=1000000:=by
 have:=b.al
 exact⟨λa d=>by have:=(b.oM a d).1;omega,λa d=>by have:=(b.wide a d).1;omega⟩
def Y8(e:dF c.abs)(f:ea c.abs)(i:c.al=(b:Int)){l:List b_}(g:b2 l=c.r.rows++b2 c.s.l):lX b l:=λa h=>by
 have hm:a.fI∈c.r.rows++b2 c.s.l:=g▸ei.2 ⟨a,h,rfl⟩
 have j:c.abs.al=c.al:=rfl
 rcases dq.1 hm with hm | hm
 have d:=e.oM _ hm
 exact⟨by have: ((a.cells.length:Nat):Int)=c.abs.al:=d.1;omega,f.2 _ hm⟩;have d:=e.wide _ hm
 exact⟨by have: ((a.cells.length:Nat):Int)=c.abs.al:=d.1;omega,f.1 _ hm⟩
def Y9(l:List t)(a:b<=A):l.take b++((l.take A).drop b++l.drop A)=l:=by
 conv=>rhs;rw[<-iJ A l,<-iJ b (l.take A)]
 rw[List.take_take,jZ a,ec]
def MK{l:List b_}(a:F∈b2 (l.take b)):F∈b2 l:=by
 obtain⟨c,d,rfl⟩:=ei.1 a;exact ei.2 ⟨c,hz d,rfl⟩
def ag.wh{c l l2:List Chunk}(d:ag e m k C)(f:aP k l D)(g:aP D l2 c)(h:b∈aK l):b∉aK l2:=λi=>by
 have a:=(d.perm f.perm).nodup
 rw[jb,gO] at a
 obtain⟨j,n,o⟩:=er.1 i;exact a.2.2 b h b (er.2 ⟨j,g.perm.mem_iff.2<|p7 _ n,o⟩) rfl
def Y_{a:Int}(b:E.abs=gD c.abs f B a):E.abs= { c.abs with g_:=E.bu.l }:=by
 have d:E.bu.l=(gD c.abs f B a).g_:=a_ (λe:b8=>e.g_) b
 rw[b,d];rfl
def aaa{rows:Int}{k m:Nat}(D:E.g=c.g)(F:dx E.r)(f:E.abs= { (⟨c.g,v,w,(b:Int),⟨none,0,[]⟩⟩ :bQ).abs with g_:=E.bu.l })(G:E.bu.l.length<=1)(o:dx v)(K:v.room=c.r.room)(L: ∀a∈v.rows,a∈b2 J)(u:lX b J)
 (x:b2 w.l=b2 ((J.take m).drop k)++List.replicate (rows.toNat - ((J.take m).drop k).length) (pH (b:Int))) (Q: (((J.take m).drop k).length:Int)<=rows) (R:1<=rows/\rows<=30) (h:2<=b/\b<=40) (M:0<=H.row/\H.row<rows) (N:0<=H.dL/\H.dL<=(b:Int)) (O:I.l.length=A+1):Ff c rows (b:Int) A (H,I,E):=by
 have y:E.abs.cY=b2 w.l:=by rw[f];rfl
 have z:E.abs.jK=v.rows:=by rw[f];rfl
 have B:E.abs.room=v.room:=by rw[f];rfl
 have i:E.abs.al=(b:Int):=by rw[f];rfl
 have P:=MI (cols:=(b:Int)) aa
 have C: ∀a∈b2 J,((a.1.length:Nat):Int)=(b:Int)/\hx a.1:=λa d=>by
  obtain⟨e,j,rfl⟩:=ei.1 d;exact⟨by show ((e.cells.length:Nat):Int)=_;rw[(u e j).1],(u e j).2⟩
 have S: (E.abs.cY.length:Int)=rows:=by
  rw[y,x,b3,c8,hy];omega
 have T:=o.n
 have U:=o.len
 have V:=o.room
 have p: ∀a∈E.abs.cY,((a.1.length:Nat):Int)=(b:Int)/\hx a.1:=λa d=>by
  rw[y,x] at d
  rcases dq.1 d with d | d
  obtain⟨e,j,rfl⟩:=ei.1 d;exact C _<|ei.2 ⟨e,hz<|kv j,rfl⟩;rw[(uk.1 d).2];exact P
 have q: ∀a∈E.abs.jK,((a.1.length:Nat):Int)=(b:Int)/\hx a.1:=λa d=>by
  rw[z] at d
  exact C a<|L a d
 refine⟨D,F,by show E.abs.room=_;rw[B,K],⟨by rw[i];omega,(show 1<=E.abs.cY.length/\E.abs.cY.length<=1000 by omega),λa d=>⟨by rw[i];exact (p a d).1,λt h=>((p a d).2 t h).small⟩,λa d=>⟨by rw[i];exact (q a d).1,λt h=>((q a d).2 t h).small⟩,?_⟩,?_,i,G,M,N,O,⟨λa d=>(p a d).2,λa d=>(q a d).2⟩⟩;rw[z,B,lE];omega
 have:E.abs.cY.length=E.s.l.length:=by simp[bQ.abs]
 dsimp only;omega
structure Fg where
 z:dz
 q:e7
set_option maxHeartbeats 2000000 in
def aab(ZF:bc a (b9 h))(X:dx h.r)(P:dF h.abs)(ZG:ea h.abs)(Zak:h.s.l.length<=30/\h.al<=40/\h.r.room<=100)(t:Int)(al:Nat)(Zd:1<=t/\t<=30)(Ze:2<=al/\al<=40)(L:bG)(ZH: (0<=L.row/\L.row<=1000)/\0<=L.dL/\L.dL<=1000)(Zf:Nat->Prop)(Zo:Option Addr)(Q Zp:Nat)(l:List bG)(Zq:Rd c1 a Zf Zo Q Zp l)(ZI: ∀k,Zf k->k∉aK (b9 h))(Zal:Q<=100000):
 ay 216 [ptr h.g,ad t,ad (al:Int),fc L,.slice Zo Q Zp] a
 (aX (λb:bG × e7 × bQ=> .tuple #[fc b.1,yr b.2.1,z0]) (b9 h) (λb=>b9 b.2.2++[b.2.1.aD]) (Ff h t (al:Int) Q) a):=by
 obtain⟨Zr,Zs⟩:=L;have ZJ:=Zq.len
 have Zam:=X.n
 have Zan:=X.len
 have Zao:=P.al
 have Zap:=P.rows
 have Zaq:h.abs.al=h.al:=rfl
 have Zar:h.abs.cY.length=h.s.l.length:=by simp[bQ.abs]
 dsimp only at ZH
 refine bX func216 ntmps216 ZF ?_;refine ap ?_;intro C Zas Zat;refine av ?_;intro D Zau Zav;refine dO ?_;refine bF (Aq · t (al:Int))<|aI ?_;refine ff rfl (by simp;omega) ?_;refine ap ?_;refine bN [0,2,3,4] 3 [[(1,false,[]),(5,false,[6,7,8,9,10]),(11,true,[])]] ?_;refine aH ?_;refine bd (λw j=>oL w h (j.has cW)<|(j.has hL: (aZ<|cP h.r).pred w) h.r.aq au)<|ap ?_;refine cU (oK · h ·)<|cZ ?_;refine bN [0,1,2,3,4,5,6,7,8] 1 [[(9,true,[])]] ?_;refine fT ?_;refine (dg) (xL · h · X (MJ P).1 (MJ P).2 aa) λu Zt=>aH ?_;refine ef (E:=c1) ⟨_,_⟩ eR rfl rfl rfl rfl rfl λZaw Zax Zay=>av ?_;refine rR (E:=c1) (src:=l) (F:=Zf) (m:=1) (xs:=c1.all [(⟨h.r.n+max 0 (min Zr<|(h.s.l.length:Int) - 1),max 0<|min Zs h.al⟩ :bG)]) (Q+1) aa eR rfl rfl rfl (λ_=>by exact cJ) (λZu R=>Zq.ext R.ext ZI) (by simp only[maxLen];omega) aa λY Z=>?_;refine cZ ?_;obtain⟨M,ZK⟩ : ∃ZL:Int,ZL=h.r.n+max 0 (min Zr<|(h.s.l.length:Int) - 1):=⟨_,rfl⟩;obtain⟨N,ZM⟩ : ∃ZN:Int,ZN=max 0 (min Zs h.al):=⟨_,rfl⟩;have Zaz: (u.l.length:Int)=h.r.n+(h.s.l.length:Int):=by
  have:=a_ List.length Zt
  rw[c8,b3,lE,c8] at this
  omega
 obtain⟨Zv,ZO⟩ : ∃ZP:Nat,h.al=(ZP:Int):=⟨h.al.toNat,aa⟩;have Zg:=Y8 P ZG ZO Zt
 have Zba:e1 (b2 u.l)<=20000:=by
  rw[Fe Zg];exact ge (Nat.mul_le_mul (show u.l.length<=200 by omega)<|show Zv<=100 by omega) aW
 subst ZJ;have ZQ: (e1 (b2 u.l)+1)*al<=1000000:=ge (Nat.mul_le_mul (show _<=20001 by omega) Ze.2) aW
 have ZR: ∀Zw∈b2 u.l,hx Zw.1:=λZw Zd=>by
  obtain⟨S,Zh,rfl⟩:=ei.1 Zd;exact (Zg S Zh).2
 refine dh (H':=ag a (aK<|b9 h)<|b9 h++[u.aD,u.cw,e7.aD ⟨Y,Z,⟨M,N⟩::l⟩,aG D [z0,z0] 44,aG C [ad M,ad N] 44]) ?_ (Sub.refl _) (λx y=>by subst ZK ZM;exact y.aF ah);refine gA (λb:Fg=>[(0,ptr h.g),(1,ad t),(2,ad (al:Int)),(8,ptr C),(10,ptr D),(13,b.z.val),(14,b.q.val)]) (λb=>ag a (aK<|b9 h)<|b9 h++[b.z.aD,b.z.cw,b.q.aD,aG D [z0,z0] 44,aG C [ad M,ad N] 44]) (λb=>lX al b.z.l/\b.z.l.length<=200000000/\b.q.l.length=l.length+1/\Good b.q.l b.z.l.length) ?_ ?_
 ·refine (cj) (λT=>a7 ?_) λT=>av ?_
  ·refine bK (l0:=[]) aP.nil (hargs:=rfl) (λw j=>Y2 w _ _ u.A Y u.l.length u.c (l.length+1) Z (b2 u.l) (⟨M,N⟩::l) al (nL (j.has (c:=u.aD) kG)<|j.has (c:=u.cw) hM) (hF (E:=c1) (L:=⟨M,N⟩::l) (A:=Y) (c:=Z) (e:=44)<|j.has BY) aa aa aa Ze.1 aa ZQ ZR) λH I=>aH ?_
   exact dN (⟨H.1,H.2⟩ :Fg) ⟨I.1,I.2.1,I.2.2.1,I.2.2.2 _ rfl bL bL⟩ (jg rfl rfl rfl rfl rfl rfl rfl) λ_ B=>B.aF ah
  ·exact dN (⟨u,⟨Y,Z,⟨M,N⟩::l⟩⟩ :Fg) ⟨by rw[show al=Zv by omega];exact Zg,by dsimp only;omega,rfl,⟨_,rfl,by dsimp only;omega,by dsimp only;omega,by dsimp only;omega⟩⟩ (jg rfl rfl rfl rfl rfl rfl rfl) λ_ B=>B
 rintro⟨⟨E,F,f⟩,⟨m,o,p⟩⟩ ⟨Zi,ZS,ZT,⟨G,J⟩,Zx,ZU,Zy,ZV⟩;dsimp only at Zi ZS ZT Zx ZU Zy ZV ⊢
 have Zz: ∀x∈b2 f,x.1.length<=1000000:=λx y=>by
  obtain⟨S,Zh,rfl⟩:=ei.1 y;have:S.cells.length=al:=(Zi S Zh).1
  show S.cells.length<=_
  omega
 refine a7 ?_;refine kA (e:=39) (sz:=2) (v:= .slice E f.length F) kG λZW ZX Zj ZY Zbb _ _=>?_;cases Zj
 dsimp only at ZY
 refine ik (E:=c1) (e:=44) (L:=p) (A:=m) (c:=o) (q:=0) BY eR rfl rfl rfl rfl aa λZbc ZZ=>cE (vs:=[ad G,ad J]) fF rfl rfl rfl (λZ0 U Zk v Zl=>U.hG (E:=c1) (e:=44) (L:=p) (A:=m) (c:=o) BY ZZ Zx Zk v Zl)<|aY ?_;refine bK (l0:=[]) aP.nil (hargs:=rfl) (λw j=>Y3 w _ E f.length F (b2 f) (nL (r:=⟨E,F,f⟩) (j.has kG)<|j.has hM) aa Zz G aa) λk Za=>ft ?_;obtain⟨d,Z1⟩ : ∃d:Nat,max 0 (min ((k:Int) - t) G)=(d:Int):=⟨(max 0<|min ((k:Int) - t) G).toNat,aa⟩;obtain⟨i,Z2⟩ : ∃i:Nat,min (k:Int) ((d:Int)+t)=(i:Int):=⟨(min (k:Int)<|(d:Int)+t).toNat,aa⟩;have Zbd:=Za.1
 have Zbe:=Za.2 Zy
 have Z3:d<=i/\i<=k:=by omega
 rw[Z1];refine qp ?_;refine gp d i dy rfl rfl (.inl ⟨_,_,rfl,rfl,rfl⟩) (.inl ⟨_,_,rfl,rfl,Z2⟩) aa aa<|rv 39 2 ?_;refine rR (E:=cx) (src:=(f.take i).drop d) (F:=λ_=>True) (m:=0) (xs:=[]) (i - d) aa dy rfl rfl rfl (λ_=>by exact cJ) (λZu R=>(hF (E:=cx) (e:=39) (A:=E) (c:=F) (L:=f)<|R.has hM).cut (p:=d) (q:=i) aa aa) (by simp only[maxLen];omega) aa λV W=>?_;refine aH ?_;have ZA:i - d=((f.take i).drop d).length:=by rw[fL,dR];omega
 have Z4:f.map b_.aQ=(f.take d).map b_.aQ++(((f.take i).drop d).map b_.aQ++(f.drop i).map b_.aQ):=by
  rw[<-gF,<-gF,Y9 f Z3.1]
 refine dh (H':=ag a (aK<|b9 h)<|b9 (⟨h.g,h.r,⟨V,W,((f.take i).drop d)⟩,(al:Int),⟨none,0,[]⟩⟩ :bQ)++[aZ ((f.take d).map b_.aQ),(⟨E,F,f⟩ :dz).aD,(⟨m,o,p⟩ :e7).aD,aG D [z0,z0] 44,aG C [ad G,ad J] 44]) ?_ (Sub.refl _) (λx y=>by
  rw[ZA] at y
  have ZB:=y.aF (l:=[aZ (f.map b_.aQ),(⟨h.g,h.r,⟨V,W,((f.take i).drop d)⟩,(al:Int),⟨none,0,[]⟩⟩ :bQ).aq,aZ<|cP h.r,dz.aD ⟨V,W,((f.take i).drop d)⟩,(⟨E,F,f⟩ :dz).aD,(⟨m,o,p⟩ :e7).aD,aG D [z0,z0] 44,aG C [ad G,ad J] 44]) ah
  rw[Z4] at ZB
  exact (((ZB.Bh.perm<|List.Perm.swap _ _ _).Bh).e4 232 lD).aF ah)
 refine ap ?_;refine bK (l0:=b9 (⟨h.g,h.r,⟨V,W,((f.take i).drop d)⟩,(al:Int),⟨none,0,[]⟩⟩ :bQ)) ah (λw j=>DL w (⟨h.g,h.r,⟨V,W,((f.take i).drop d)⟩,(al:Int),⟨none,0,[]⟩⟩ :bQ) (j.cb ah) t aa bL) λO Z5=>a7 ?_;refine bN [0,1,2,3,4,5,6] 1 [[(7,true,[8])]] ?_;refine aH ?_;refine aO rfl (λZbf Zbg=>(gp 0 d dy rfl rfl (.inr ⟨rfl,rfl⟩) (.inl ⟨_,_,rfl,rfl,rfl⟩) aa aa aJ))<|aA ?_;rw[x4,lv,lv];refine ml (l0:=cP h.r) (cs1:=λ_=>_) (λ_=>fs) (hargs:=rfl) (λw j=>Y5 w h.r (j.mj cz) X _ E d F (b2<|f.take d) (Y6 (r:=(⟨E,F,f⟩ :dz)) (lo:=d) (j.has hM) bL<|j.has kG) (λk Za=>by have U:=j.wh (l:=[(⟨E,F,f⟩ :dz).aD,aZ<|(f.take d).map b_.aQ]) (l2:=[aZ (cP h.r)]) ah ah Za;rwa [show aK [aZ (cP h.r)]=aK (cP h.r) by simp[aK,aZ]] at U) aa λx y=>Zz x<|MK y) λH I=>?_;refine aH ?_;refine dh (H':=ag a (aK<|b9 h)<|b9 (⟨h.g,H.2,O,(al:Int),⟨none,0,[]⟩⟩ :bQ)++[aZ ((f.take d).map b_.aQ),(⟨E,F,f⟩ :dz).aD,(⟨m,o,p⟩ :e7).aD,aG D [z0,z0] 44,aG C [ad G,ad J] 44]) ?_ (Sub.refl _) (λx y=>by have e:=I.1;simp only[b9,bQ.aq,qv,e];exact y.aF ah);refine aI ?_;have Zm:dx H.2:=I.2.2.1
 have Z6:b2 O.l=b2 ((f.take i).drop d)++List.replicate (t.toNat - ((f.take i).drop d).length) (pH (al:Int)):=Z5
 refine gA (λ_:bQ=>[(0,ptr h.g),(1,ad t),(2,ad (al:Int)),(8,ptr C),(10,ptr D),(14,(⟨m,o,p⟩ :e7).val),(15,ad (d:Int))]) (λv=>ag a (aK<|b9 h)<|b9 v++[(⟨m,o,p⟩ :e7).aD,aG D [z0,z0] 44,aG C [ad G,ad J] 44]) (λv=>v.g=h.g/\dx v.r/\v.abs= { (⟨h.g,H.2,O,(al:Int),⟨none,0,[]⟩⟩ :bQ).abs with g_:=v.bu.l }/\v.bu.l.length<=1) ?_ ?_
 ·refine (cj) (λT=>ap ?_) λT=>av ?_
  ·refine bK (l0:=b9 (⟨h.g,H.2,O,(al:Int),⟨none,0,[]⟩⟩ :bQ)) ah (hargs:=rfl) (λw j=>rQ w (⟨h.g,H.2,O,(al:Int),⟨none,0,[]⟩⟩ :bQ) (j.cb ah) Zm au 2 0 _) λZ7 Zb=>av ?_
   exact dN Z7 ⟨Zb.1,Zb.2.1,Y_ Zb.2.2,by have:=a_ (λZ8=>Z8.g_.length) Zb.2.2;exact Nat.le_of_eq this⟩ b5 λ_ B=>B.aF ah
  ·exact dN (⟨h.g,H.2,O,(al:Int),⟨none,0,[]⟩⟩ :bQ) ⟨rfl,Zm,rfl,b4 _⟩ (jg rfl rfl rfl rfl rfl rfl rfl) λ_ B=>B.aF ah
 rintro v ⟨Z9,Zaa,Zab,Zac⟩;refine a7 ?_;refine kA (e:=44) (sz:=2) (v:= .slice m p.length o) kG λZW ZX Zj Zad Zbh _ ZC=>?_;cases Zj
 dsimp only at Zad ZC
 refine gp 1 p.length eR rfl rfl (.inl ⟨_,_,rfl,rfl,rfl⟩) (.inr ⟨rfl,rfl⟩) aa aa<|b6 ?_;refine cd (ι:=Nat × List bG) (λb=>[(1,ad t),(2,ad (al:Int)),(8,ptr C),(10,ptr D),(15,ad (d:Int)),(17,(.slice (if o=1 then m else m.map λx=>x.add<|1*2) (p.length - 1) (o - 1):Value)),(121,(.slice (if o=1 then m else m.map λx=>x.add<|1*2) (p.length - 1) (o - 1):Value)),(122,ad ((p.length - 1 :Nat):Int)),(123,ad (b.1 :Int))])
  (λb=>ag a (aK<|b9 h)<|b9 v++[e7.aD ⟨m,o,b.2⟩,aG D [z0,z0] 44,aG C [ad G,ad J] 44]) (λb=>b.1<=p.length - 1/\b.2.length=p.length) (λb=>p.length - 1 - b.1) ?_ ?_
 ·exact λZu R=>⟨(0,p),⟨b4 _,rfl⟩,(uK rfl rfl rfl rfl rfl rfl rfl rfl rfl),R⟩
 ·rintro⟨b,K⟩ ⟨Zae,Zc⟩
  dsimp only at Zae Zc ⊢
  refine (aE) (λZaf=>?_) λZaf=>qp ?_
  ·obtain⟨ZD,Zn⟩:=ZC aa
   have ZE: (if o=1 then m else m.map λx=>x.add<|1*2)=some ((⟨ZD,0,none⟩ :Addr).add<|1*2):=by rw[ai aa,Zn];rfl
   obtain⟨⟨Zag,Zah⟩,Zai⟩ : ∃x,K[b+1]? = some x:=⟨_,bD aa⟩;refine aU ?_;refine bE (q:=b) eR rfl rfl rfl ZE rfl aa ?_;rw[MH];refine cE (vs:=[ad Zag,ad Zah]) fF rfl rfl rfl (λZ0 U Zk v Zl=>U.hG (E:=c1) (e:=44) (L:=K) (A:=m) (c:=o) kG Zn Zai Zk v Zl)<|av ?_;intro Zbi Zbj Zbk;refine (aE) (λT=>aU ?_) λT=>aU ?_
   ·refine bE (q:=b) eR rfl rfl rfl ZE rfl aa ?_
    rw[MH];refine ss (E:=c1) (e:=44) (A:=m) (c:=o) (L:=K) (g:=ZD) (q:=b+1) (a:=(⟨(d:Int)+t,0⟩ :bG)) fF rfl rfl Zn aa wN<|aU ?_;exact bv (b+1,K.set (b+1) ⟨(d:Int)+t,0⟩) ⟨aa,by dsimp only;rw[gx];exact Zc⟩ bL b5 λ_ B=>B.aF ah
   ·exact bv (b+1,K) ⟨aa,Zc⟩ bL b5 λ_ B=>B.aF ah
  ·refine pe results216 (c_.fx fF rfl hM rfl rfl) (c_.tmp rfl) (c_.tmp rfl) λZbl Zaj=>?_
   exact aX.cf (⟨G - (d:Int),min J (al:Int)⟩,⟨m,o,K⟩,v) (aaa Z9 Zaa Zab Zac Zm I.2.1 (λx y=>MK<|I.2.2.2 x y) Zi Z6 (by rw[<-ZA];omega) Zd Ze ⟨by dsimp only;omega,by dsimp only;omega⟩ ⟨by dsimp only;omega,by dsimp only;omega⟩ bL) (by rw[show p.length=K.length from Zc.symm];rfl)<|Zaj.aF ah
def aac(a:dF c.abs)(d:ea c.abs)(b:K∈c.s.l):K.cells.length<=1000/\hx K.cells:=by
 have e:=a.wide K.fI<|ei.2 ⟨K,b,rfl⟩
 have f:=a.al
 have g: ((K.cells.length:Nat):Int)=c.abs.al:=e.1
 exact⟨aa,d.1 _<|ei.2 ⟨K,b,rfl⟩⟩
def aad(a:Nat)(b c:List Value): (own 39 2 (.slice j d a) d b).cT=(own 39 2 (.slice j u a) u c).cT:=by
 cases j <;> rfl
structure ML (p:bQ) (rows al:Int) (q:bQ):Prop where
 g:q.g=p.g
 r:dx q.r
 room:q.r.room=p.r.room
 P:dF q.abs
 high: (q.s.l.length:Int)=rows
 wd:q.al=al
 bu:q.bu.l=[]
 G:ea q.abs
def aae(e:Option Addr)(d f:Nat)(b:List aL)(i:Rd bW a M e d f b)(g:d<=1000000):
 ay 30 [.slice e d f] a (gr (λc:Option Addr × Nat=> .slice c.1 (cX id b).length c.2) (λc=>ep (.slice c.1 (cX id b).length c.2)<|cX id b) (λ_=>True) a):=by
 refine (Hb a M e d f b i g).mono ?_;rintro n o ⟨p,_,rfl,j,h,k,g⟩;obtain⟨l,m,rfl⟩:=yG h;exact⟨(l,m),bh,rfl,j,h,k,g⟩
def aaf{R:List aL}(a: (own 81 8 (.slice (some ⟨b,0,none⟩) A A) A<|bW.all R).pred e)(c:R.length=A):Rd bW e (λ_=>True) (some ⟨b,0,none⟩) A A R:=by
 obtain⟨i,j,d,f⟩:=Rd.ho (E:=bW) (show e.ownsRow 0 81 bW.ax (.slice (some ⟨b,0,none⟩) A A) A (bW.all R) from a) c;injection d with g _ h
 subst g h;exact f.d8 λ_ _=>bh
def aag{L:List b_}{rows:Int}(e:v.g=c.r.g/\v.room=c.r.room/\dx v/\v.rows=[])(j:b2 w.l=b2 L++List.replicate (rows.toNat - L.length) (pH (b:Int)))(p: ∀a∈L,a.cells.length<=1000/\hx a.cells)(q: ∀f a,f<L.length->L[f]? = some a->a.cells.length=b)(x: (L.length:Int)<=rows)(y:1<=rows/\rows<=30)(k:2<=b/\b<=1000):ML c rows (b:Int) (⟨c.g,v,w,(b:Int),⟨none,0,[]⟩⟩ :bQ):=by
 have s:=MI (cols:=(b:Int)) aa
 have t: (w.l.length:Int)=rows:=by
  have:=a_ List.length j
  rw[c8,b3,c8,hy] at this
  omega
 have z:=e.2.2.1.n
 have A:=e.2.2.1.len
 have B:=e.2.2.1.room
 have h: ∀a∈b2 w.l,((a.1.length:Nat):Int)=(b:Int)/\hx a.1:= ?_
 refine⟨rfl,e.2.2.1,e.2.1,⟨by show 2<=(b:Int)/\(b:Int)<=1000;omega,by show 1<=(b2 w.l).length/\(b2 w.l).length<=1000;rw[c8];omega,λa d=>⟨(h a d).1,λu k=>((h a d).2 u k).small⟩,λa d=>?_,by show ((v.rows.length:Nat):Int)<=v.room/\v.room<=100000;rw[e.2.2.2];simp only[gN];omega⟩,t,rfl,rfl,⟨λa d=>(h a d).2,λa d=>?_⟩⟩;rotate_left 2
 ·intro a d
  rw[j] at d
  rcases dq.1 d with d | d
  ·obtain⟨i,m,rfl⟩:=ei.1 d
   obtain⟨f,o⟩:=List.mem_iff_getElem?.1 m;have:=q f i (cH.1 o).1 o
   exact⟨by show ((i.cells.length:Nat):Int)=_;omega,(p i m).2⟩
  ·rw[(uk.1 d).2];exact s
 all_goals
  have d:a∈v.rows:=d
  rw[e.2.2.2] at d;cases d
def aah(J:bc a (b9 h))(M:dx h.r)(F:dF h.abs)(N:ea h.abs)(j:Int)(al:Nat)(O:1<=j/\j<=30)(P:2<=al/\al<=1000):ay 218 [ptr h.g,ad j,ad (al:Int)] a
 (aX (λ_:bQ=>z0) (b9 h) b9 (ML h j (al:Int)) a):=by
 have Zo:=F.rows
 have Zp:h.abs.cY.length=h.s.l.length:=by simp[bQ.abs]
 refine bX func218 ntmps218 J ?_;refine fa ?_;refine bF (Aq · j (al:Int))<|aI ?_;refine ff rfl (by simp;omega) ?_;obtain⟨K,Q⟩ : ∃K:Nat,min (h.s.l.length:Int) j=(K:Int):=⟨(min (h.s.l.length:Int) j).toNat,aa⟩;refine aY ?_;refine ml (l0:=cP h.r) (cs1:=λ_=>_) (λ_=>fs) (λt d=>Hh t h.r (d.mj cz) M) λi G=>?_;refine aH ?_;refine kA (e:=39) (sz:=2) (v:=h.s.val) cW λZq Zr S Zs Zt _ T=>?_;injection S with U _ V
 subst U V;refine be ?_;refine bN [0,1,2,3,4,5,6,7,8,9,10,11,12,13,14] 1 [[(15,true,[])]] ?_;refine b6 ?_;refine aO rfl (λW X=>(gp 0 K dy rfl rfl (.inr ⟨rfl,rfl⟩) (.inl ⟨_,_,rfl,rfl,Q⟩) aa aa aJ))<|a7 ?_;rw[x4,lv,lv];refine aU ?_;have Y: (h.s.l.take K).length=K:=by rw[dR];omega
 have Z:K<=h.s.l.length:=by omega
 have Za:h.s.l.map b_.aQ=(h.s.l.take K).map b_.aQ++(h.s.l.drop K).map b_.aQ:=by rw[<-gF,iJ]
 refine dh (H':=ag a (aK<|b9 h) [aG h.g [.pointer (some ⟨h.r.g,0,none⟩),.slice h.s.A K h.s.c,ad (al:Int),.slice none 0 0] 153,aZ<|cP i,own 39 2 (.slice h.s.A K h.s.c) K<|cx.all<|h.s.l.take K,aZ<|(h.s.l.take K).map b_.aQ,nM.aD ⟨none,0,[]⟩]) ?_ (Sub.refl _) (λx k=>by
  have o:=k.aF (l:=[aZ (h.s.l.map b_.aQ),aG h.g [.pointer (some ⟨h.r.g,0,none⟩),.slice h.s.A K h.s.c,ad (al:Int),.slice none 0 0] 153,aZ<|cP i,h.s.aD]) ah
  rw[Za] at o
  have z:=(o.Bh).conv (c:=h.s.aD) (c':=own 39 2 (.slice h.s.A K h.s.c) K<|cx.all<|h.s.l.take K) j5 (aad h.s.A K h.s.l.length h.s.c _ _) (λe=>by have u:=Ey (j:=K) Z e;rw[<-show (cx.all<|h.s.l.take K)=(cx.all h.s.l).take (K*2) from cx.EB h.s.l K] at u;exact u)
  exact (z.e4 232 lD).aF ah)
 refine be ?_;refine cd (ι:=Nat × List b_) (λb=>[(0,ptr h.g),(1,ad j),(2,ad (al:Int)),(48,.slice h.s.A K h.s.c),(49,ad (K:Int)),(50,ad (b.1 :Int))])
  (λb=>ag a (aK<|b9 h) [aG h.g [.pointer (some ⟨h.r.g,0,none⟩),.slice h.s.A K h.s.c,ad (al:Int),.slice none 0 0] 153,aZ<|cP i,own 39 2 (.slice h.s.A K h.s.c) K<|cx.all b.2,aZ<|b.2.map b_.aQ,nM.aD ⟨none,0,[]⟩])
  (λb=>b.1<=K/\b.2.length=K/\(∀x∈b.2,x.cells.length<=1000/\hx x.cells)/\ ∀m x,m<b.1->b.2[m]? = some x->x.cells.length=al) (λb=>K - b.1) ?_ ?_
 ·exact λZu Zb=>⟨(0,h.s.l.take K),⟨b4 _,Y,λx k=>aac F N<|hz k,λ_ _ e=>by omega⟩,(jF rfl rfl rfl rfl rfl rfl),Zb⟩
 ·rintro⟨b,L⟩ ⟨Zc,B,v,C⟩
  dsimp only at Zc B v C ⊢
  refine (aE) (λZd=>?_) λZd=>?_
  ·obtain⟨Ze,w⟩:=T aa
   obtain⟨x,k⟩ : ∃x,L[b]? = some x:=⟨_,bD aa⟩;have Zf:=v x<|cR k
   subst B;refine aU ?_;refine bE (q:=b) dy rfl rfl rfl w rfl aa<|cE (vs:=x.enc) gG rfl rfl rfl (λZv u m Zg y=>u.hG (E:=cx) (e:=39) (L:=L) (A:=h.s.A) (c:=h.s.c) cW w k m Zg y)<|av ?_;intro Zh Zw Zx;refine aU ?_;refine sT al dj rfl rfl rfl rfl (by simp only[maxLen];omega) aa λD Zy Zz=>?_;refine a7 ?_;rw[B_];refine dh (H':=ag a (aK<|b9 h) [own 81 8 (.slice (some ⟨D,0,none⟩) al al) al (bW.all<|List.replicate al eo),aG Zh x.enc 39,aG h.g [.pointer (some ⟨h.r.g,0,none⟩),.slice h.s.A L.length h.s.c,ad (al:Int),.slice none 0 0] 153,aZ<|cP i,own 39 2 (.slice h.s.A L.length h.s.c) L.length<|cx.all L,aZ<|L.map b_.aQ,nM.aD ⟨none,0,[]⟩]) (a7 ?_) (Sub.refl _) λn f=>f.aF ah;refine zi (E:=bW) (L:=List.replicate al eo) (src:=x.cells) (g:=D) (F:=λ_=>True) 0 (min x.cells.length al) rfl dj rfl rfl rfl (λ_=>by rw[sM]) (by rw[hy];omega) cJ (λZA o=>xK (o.has kG)<|cR k) ?_;refine aA ?_;obtain⟨R,E⟩ : ∃R,R=List.take 0 (List.replicate al eo)++List.take (min x.cells.length al) x.cells++List.drop (0+min x.cells.length al) (List.replicate al eo):=⟨_,rfl⟩;rw[<-E];have H:R.length=al:=by
    rw[E];simp only[b3,dR,fL,hy];omega
   have Zi:hx R:=λc d=>by
    rw[E] at d
    rcases dq.1 d with d | d
    ·rcases dq.1 d with d | d
     ·simp at d
     ·exact Zf.2 c<|hz d
    ·rw[(uk.1<|kv d).2];exact CU
   refine fg [0,1,2,3,4,5] 2 [[(6,false,[7,8]),(9,true,[])]] (_) mixed ak (λ_ Zj=>Zj.drew) (λ_ e=>(show ag _ _ [aG h.g [.pointer (some ⟨h.r.g,0,none⟩),.slice h.s.A L.length h.s.c,ad (al:Int),.slice none 0 0] 153] _ from e.aF ah))<|aY ?_;refine hf (ι:=Option Addr × Nat) (hargs:=rfl) (λt d=>aae t _ (some ⟨D,0,none⟩) al al R (aaf (d.has bw) H) aa) λ⟨p,q⟩ _=>cv (λ_=>True) (λ_ e=> .inr<|e.aF ah) (λ_ e=>bh)<|av ?_;refine aO rfl (λW X=>(bE (q:=b) dy rfl rfl rfl w rfl aa aJ))<|aA ?_;refine ss (E:=cx) (e:=39) (A:=h.s.A) (c:=h.s.c) (L:=L) (g:=Ze) (q:=b) (a:=(⟨p,q,false,cX id R⟩ :b_)) gG rfl rfl w aa uJ<|a6 ?_;refine bv (b+1,L.set b (⟨p,q,false,cX id R⟩ :b_)) ⟨by dsimp only;omega,by rw[gx],λn f=>?_,λm n y f=>?_⟩ bL (jF rfl rfl rfl rfl rfl rfl) λ_ e=>?_
   ·exact (sF f).elim (v n ·) (λe=>by rw[e];exact⟨by show (cX id R).length<=_;rw[Ci (f:=id) λ_=>rfl];omega,vl<|vl Zi⟩)
   ·exact (Nat.lt_or_eq_of_le<|Nat.le_of_lt_succ y).elim (λe=>by rw[ks aa] at f;exact C m n e f) (λe=>by subst e;rw[oo aa] at f;cases f;show (cX id R).length=_;rw[Ci (f:=id) λ_=>rfl];exact H)
   ·simp only[Mq.aD,gx] at e
    have o:=e.aF (l:=[aZ (L.map b_.aQ),(⟨p,q,false,cX id R⟩ :b_).aQ,aG h.g [.pointer (some ⟨h.r.g,0,none⟩),.slice h.s.A L.length h.s.c,ad (al:Int),.slice none 0 0] 153,aZ<|cP i,own 39 2 (.slice h.s.A L.length h.s.c) L.length<|cx.all<|L.set b (⟨p,q,false,cX id R⟩ :b_),nM.aD ⟨none,0,[]⟩]) ah
    have z:=o.pick (k:=b) (c:=x.aQ) (by rw[fw,k];rfl)
    have Zk:=(z.perm<|List.Perm.swap _ _ _).aF (l:=[(⟨p,q,false,cX id R⟩ :b_).aQ,aZ<|(L.map b_.aQ).eraseIdx b,aG h.g [.pointer (some ⟨h.r.g,0,none⟩),.slice h.s.A L.length h.s.c,ad (al:Int),.slice none 0 0] 153,aZ<|cP i,own 39 2 (.slice h.s.A L.length h.s.c) L.length<|cx.all<|L.set b (⟨p,q,false,cX id R⟩ :b_),nM.aD ⟨none,0,[]⟩]) ah
    have I:=Zk.Lm (by rw[c8];omega)
    rw[<-p6] at I
    exact I.aF ah
  ·have ZB:b=K:=by omega
   subst B;have Zl:i.g=h.r.g:=G.1
   refine aH ?_;refine dh (H':=ag a (aK<|b9 h)<|b9 (⟨h.g,i,⟨h.s.A,h.s.c,L⟩,(al:Int),⟨none,0,[]⟩⟩ :bQ)) ?_ (Sub.refl _) (λn f=>by simp only[b9,bQ.aq,qv,Zl];exact f.aF ah);refine ap ?_;refine bK (l0:=b9 (⟨h.g,i,⟨h.s.A,h.s.c,L⟩,(al:Int),⟨none,0,[]⟩⟩ :bQ)) ah (λt d=>DL t (⟨h.g,i,⟨h.s.A,h.s.c,L⟩,(al:Int),⟨none,0,[]⟩⟩ :bQ) (d.cb ah) j aa bL) λn f=>a6 ?_;exact bT (⟨h.g,i,n,(al:Int),⟨none,0,[]⟩⟩ :bQ)<|aag (L:=L) G f (v · ·) (λm Zm y Zn=>C m Zm aa Zn) aa O P
def mP.fI{c:t->Value}{b:t->Chunk}{d:t->Prop}(h:mP c n b d e O C):aX c [n] (λa=>[b a]) d e O C:=by
 obtain⟨a,k,rfl,l,m,o,p⟩:=h;have f:aK [n]=n.cT:=by simp[aK]
 have g:aK [b a]=(b a).cT:=by simp[aK]
 refine⟨a,k,rfl,f▸l,g▸p,λr i=>?_,λq j s=>?_⟩;rw[e0] at i;subst i;exact m
 rw[g] at j
 rw[f];rcases o q j with h | h
 exact h;omega
abbrev su(a:dw.gi)(y x:Int):bA:={ i with az:=h,st:=⟨i.st.g,dw.kO i.st.bs d,a⟩,y:=y,x:=x }
def MM{d:bA}{j:dw.gi}{rows:Int}(m:dF c.abs)(n:ea c.abs)(k:dd x.abs)(o: (c.s.l.length:Int)=rows)(t:c.al=(b:Int))(u:1<=rows/\rows<=30)(w:2<=b/\b<=40)(y:0<=f/\f<rows)(z:0<=B/\B<=(b:Int))(A:c.r.room<=100)(h:jl (su x c b j f B) (vb (su x c b j f B).abs) d):
 d.g=x.g/\eP d/\d.az.r.room=c.r.room/\d.az.bu.l=c.bu.l:=by
 have i:d.az.abs=c.abs:=a_ (λe:a1=>e.bz) h.abs
 have C:d.az.s.l.length=c.s.l.length:=by
  have:=a_ (λe:b8=>e.cY.length) i
  simpa [bQ.abs] using this
 have D:d.az.al=c.al:=a_ (λe:b8=>e.al) i
 have p:d.az.r.room=c.r.room:=a_ (λe:b8=>e.room) i
 have q:d.az.bu.l=c.bu.l:=a_ (λe:b8=>e.g_) i
 have E: ((b2 c.s.l).length:Int)=rows:=by rw[c8];exact o
 refine⟨h.g,⟨h.wf,?_,⟨aa,aa,aa⟩,by rw[h.abs];exact⟨n,k.a,k.v⟩⟩,p,q⟩;rw[h.abs];refine⟨m,?_,?_,?_⟩;show 0<=f/\f<((b2 c.s.l).length:Int)
 omega
 show 0<=B/\B<=c.al
 omega
 show (0 :Int)<=0/\(0 :Int)<=((b2 c.s.l).length:Int) - 1/\((b2 c.s.l).length:Int) - 1<((b2 c.s.l).length:Int)
 omega
def MN{a:dw.gi}(d:dx c.r)(e:c.al=(b:Int))(g:dw.jk (dw.kO x.st.bs b) a):eM (su x c b a f B):=⟨d,g,by show ((dw.kO x.st.bs b).length:Int)=c.al;rw[dw.tn];exact e.symm⟩
def MO(b:bA)(t:bc a (a8 b))(f:eP b)(h:Int)(e:Nat)(u:1<=h/\h<=30)(m:2<=e/\e<=40):ay 143 [ptr b.g,ad h,ad (e:Int)] a
 (aX (λ_:bA=>z0) (a8 b) a8 (λj=>j.g=b.g/\eP j/\j.az.r.room=b.az.r.room/\j.az.bu.l.length=0) a):=by
 have D:=f.ok.y
 have E:=f.ok.x
 have F:b.abs.y=b.y:=rfl
 have H:b.abs.x=b.x:=rfl
 have I:b.abs.al=b.az.al:=rfl
 have J:b.abs.rows=(b.az.s.l.length:Int):=by show ((b2 b.az.s.l).length:Int)=_;rw[c8]
 have K:=f.small
 refine bX func143 ntmps143 t ?_;refine a6 ?_;refine cU (kc · b ·)<|aA ?_;refine (dg) (aah · b.az · f.g.r f.ok.bz f.iB.p h e u ⟨m.1,aa⟩) λv d=>?_;refine cn ?_;refine fg [0,1,2,3,4,6,7,9,10,11,13] 4 [[(5,false,[8]),(12,false,[14,15,16]),(17,false,[18,19]),(20,false,[])],[(12,false,[14]),(5,false,[8,15,16]),(17,false,[18,19]),(20,false,[])]] (_) mixed ak (λ_ n=>n.drew) (λ_ c=>c.ext.size)<|b6 ?_;focus (refine wO ?_ ?_;all_goals (refine av ?_;refine cv (λ_=>True) (λ_ c=> .inr c.ext.size) (λ_ c=>bh)<|a7 ?_;refine cv (λ_=>True) (λ_ c=> .inr ⟨.inr c.ext.size,dC⟩) (λ_ c=>bh)<|aH ?_;refine cv (λ_=>True) (λ_ c=> .inr ⟨.inr ⟨.inr c.ext.size,dC⟩,dC⟩) (λ_ c=>bh)<|aI ?_;refine cv (λ_=>True) (λ_ c=> .inr ⟨.inr ⟨.inr ⟨.inr c.ext.size,dC⟩,dC⟩,dC⟩) (λ_ c=>bh)<|be ?_;refine bK (l0:=[b.st.aQ]) ah (λo q=>(dw.tc o b.st.g b.st.bs b.st.i f.g.st (q.has hM) (xV t) e ⟨m.1,aa⟩).mono λ_ _ c=>c.fI) λw z=>?_;refine ap ?_;refine dh (H':=ag a (aK<|a8 b)<|a8<|su b v e w (min b.y<|h - 1)<|min b.x (e:Int)) ?_ (Sub.refl _) (λL A=>by have B:=d.g;simp only[a8,bA.aq,ga,su,B,xf.aQ,dw.tn];exact A.aF ah);refine aA ?_;refine bK (l0:=a8<|su b v e w (min b.y<|h - 1)<|min b.x (e:Int)) ah (λo q=>zJ o _ (q.cb ah) (MN d.r d.wd z) d.P) λj C=>?_;refine a6 ?_;intro M n;have k:=MM d.P d.G f.iB d.high d.wd u m ⟨aa,aa⟩ ⟨aa,aa⟩ (by rw[d.room];omega) C;exact eV j ⟨k.1,k.2.1,k.2.2.1.trans d.room,by rw[k.2.2.2,d.bu];rfl⟩ n))
def MP(e:bc a (a8 i))(b c:Int)(f: ¬((1<=b/\b<=1000)/\2<=c/\c<=1000))(d:Value):ay 142 [ptr i.g,ad b,ad c,d] a
 (aX (λ_:Unit=> .tuple #[.slice none 0 0,ad 1]) (a8 i) (λ_=>a8 i) (λ_=>True) a):=by
 refine bX func142 ntmps142 e ?_;refine a6 ?_;refine cU (kc · i ·)<|ap ?_;refine cU (kj · i ·)<|lM (t:=44) (off:=0) ak fF rfl rfl rfl<|av ?_;refine dE (Y7 · i.az · b c f ⟨i.y,i.x⟩ d) λh _=>?_;refine aI ?_;intro j k l;refine qp ?_;exact bT () bh
def MQ(b:bA)(D:bc a (a8 b))(f:eP b)(n:Int)(j:Nat)(E:1<=n/\n<=30)(k:2<=j/\j<=40)(v:Nat->Prop)(w:Option Addr)(m z:Nat)(F:List bG)(M:Rd c1 a v w m z F)(H: ∀c,v c->c∉aK (a8 b))(N:m<=100000):
 ay 142 [ptr b.g,ad n,ad (j:Int),.slice w m z] a
 (aX (λe:e7 × bA=> .tuple #[yr e.1,z0]) (a8 b) (λe=>a8 e.2++[e.1.aD]) (λe=>e.2.g=b.g/\eP e.2/\e.2.az.r.room=b.az.r.room/\e.2.az.bu.l.length<=1/\e.1.l.length=m+1) a):=by
 have Zc:=f.ok.y
 have Zd:=f.ok.x
 have Ze:b.abs.y=b.y:=rfl
 have Zf:b.abs.x=b.x:=rfl
 have Zg:b.abs.al=b.az.al:=rfl
 have Zh:b.abs.rows=(b.az.s.l.length:Int):=by show ((b2 b.az.s.l).length:Int)=_;rw[c8]
 have O:=f.small
 have Q: ∀c,c∈aK (b9 b.az)->c∈aK (a8 b):=λc o=>by
  obtain⟨R,k,S⟩:=er.1 o;exact er.2 ⟨R,by simp only[eJ,o9,or_false] at k ⊢;rcases k with h | h | h | h | h <;> simp[h],S⟩
 refine bX func142 ntmps142 D ?_;refine a6 ?_;refine cU (kc · b ·)<|ap ?_;refine cU (kj · b ·)<|lM (t:=44) (off:=0) ak fF rfl rfl rfl<|av ?_;refine bK (l0:=b9 b.az) ah (hargs:=rfl) (λA q=>aab A b.az (q.cb ah) f.g.r f.ok.bz f.iB.p O n j E k ⟨b.y,b.x⟩ bL (λc=>v c/\c<a.heap.size) w m z F ((M.iz aW).ext q.ext λc o=>H c o.1) (λc o T=>H c o.1<|Q c T) N) λ⟨⟨I,J⟩,B,t⟩ U=>aI ?_;intro V Zi Zj;refine fa ?_;refine fg [0,1,2,3,4,5,6,7] 2 [[(8,false,[9,10]),(11,false,[])]] (_) mixed ak (λ_ C=>C.drew) (λ_ h=>(show ag _ _ [aG V _ 44] _ from h.aF ah))<|bP ?_;refine cv (λ_=>True) (λ_ h=> .inr<|h.aF ah) (λ_ h=>bh)<|aI ?_;refine cv (λ_=>True) (λ_ h=> .inr ⟨.inr<|h.aF ah,dC⟩) (λ_ h=>bh)<|be ?_;refine bK (l0:=[b.st.aQ]) ah (λA q=>(dw.tc A b.st.g b.st.bs b.st.i f.g.st (q.has Oj) (xV D) j ⟨k.1,aa⟩).mono λ_ _ h=>h.fI) λW X=>?_;refine ap ?_;have d:Ff b.az n (j:Int) m (⟨I,J⟩,B,t):=U
 have K:=d.y
 have L:=d.x
 dsimp only at K L
 refine dh (H':=ag a (aK<|a8 b)<|a8 (su b t j W I J)++[B.aD]) ?_ (Sub.refl _) (λZk Y=>by have Z:t.g=b.az.g:=d.g;simp only[a8,bA.aq,ga,su,Z,xf.aQ,dw.tn];exact Y.aF ah);refine aA ?_;refine (dg) (zJ · _ · (MN d.r d.wd X) d.P) λZa Zb=>?_;refine bP ?_;intro Zl C;have u:=MM d.P d.G f.iB d.high d.wd E ⟨k.1,aa⟩ K L (by rw[show t.r.room=b.az.r.room from d.room];omega) Zb
 exact eV (B,Za) ⟨u.1,u.2.1,u.2.2.1.trans d.room,by rw[u.2.2.2];exact d.bu,d.pl⟩ C
def aai(i:bc a (b0 d u o y))(b c:Int)(j: ¬((1<=b/\b<=1000)/\2<=c/\c<=1000))(e:Value):ay 76 [ptr d,ad b,ad c,e] a
 (aX (λ_:Unit=> .tuple #[.slice none 0 0,ad 1]) (b0 d u o y) (λ_=>b0 d u o y) (λ_=>True) a):=by
 obtain⟨k,l,m,r,s,t,v,w⟩:=y;focus (cases m;refine bX func76 ntmps76 i ?_;refine a6 ?_;refine cU (pK · d u _ ·) ?_;refine ap ?_;refine dE (λf g=>Calls.mono (MP f k g.k2 b c j e) λn p h=>aX.star h) λ_ _=>?_;rotate_left;refine bX func76 ntmps76 i ?_;refine a6 ?_;refine cU (pK · d u _ ·) ?_;refine ap ?_;refine dE (λf g=>Calls.mono (MP f l g.k2 b c j e) λn p h=>aX.star h) λ_ _=>?_;all_goals (refine y7 ?_;intro x q;exact eV () bh q))
def ag.Bi{w:World}(a:ag e m (aZ (D++[n])::k) w):ag e m (aZ D::n::k) w:=by
 have b:=a.Bh
 exact ((b.perm<|List.Perm.swap _ _ _).mQ).perm<|List.Perm.swap _ _ _
def aaj(W:bc a (b0 d u o y))(j:cK d f b y)(C:Int)(D:Nat)(J:1<=C/\C<=30)(A:2<=D/\D<=40)(K:Nat->Prop)(L:Option Addr)(B M:Nat)(O:List bG)(X:Rd c1 a K L B M O)(N: ∀e,K e->e∉aK (b0 d u o y))(Y:B<=100000):
 ay 76 [ptr d,ad C,ad (D:Int),.slice L B M] a
 (aX (λc:e7 × bM=> .tuple #[yr c.1,z0]) (b0 d u o y) (λc=>c.1.aD::b0 d u o c.2) (λc=>cK d f (b+1) c.2/\c.1.l.length=B+1) a):=by
 obtain⟨h,i,Z,m,n,p,q,v⟩:=y;have Za:=j.buf
 dsimp only at Za
 cases Z
 have P: ∀e,e∈aK (a8 h)->e∈aK (b0 d u o ⟨h,i,false,m,n,p,q,v⟩):=λe s=>er.2 ⟨aZ<|a8 h,by simp,s⟩
 refine bX func76 ntmps76 W ?_;refine a6 ?_;refine cU (pK · d u _ ·) ?_;refine ap ?_;refine bK (l0:=[aZ (a8 h)]) (v:=λc:e7 × bA=> .tuple #[yr c.1,z0]) (l':=λc=>[aZ (a8 c.2++[c.1.aD])]) (ok:=λc=>c.2.g=h.g/\eP c.2/\c.2.az.r.room=h.az.r.room/\c.2.az.bu.l.length<=1/\c.1.l.length=B+1) ah (hargs:=rfl) (λE w=>Calls.mono (MQ E h (w.cb ah).k2 j.am C D J A (λe=>K e/\e<a.heap.size) L B M O ((X.iz aW).ext w.ext λe s=>N e s.1) (λe s Q=>N e s.1<|P e Q) Y) λR S F=>aX.star F) λ⟨G,k⟩ t=>gQ ?_;refine dh (H':=ag a (aK<|b0 d u o ⟨h,i,false,m,n,p,q,v⟩)<|G.aD::b0 d u o ⟨k,i,false,m,n,p,q,v⟩) ?_ (Sub.refl _) (λT H=>by have I:k.g=h.g:=t.1;have U:=H.Bi;simp only[b0,eu,n2,bM.cG,bM.dY,I];exact U.aF ah);refine a7 ?_;refine d9 (q:=1) underlying117 rD rfl rfl rfl bo aa<|ap ?_;refine bK (l0:=[aZ (a8 i)]) (v:=λ_:bA=>z0) (l':=λc=>[aZ (a8 c)]) (ok:=λc=>c.g=i.g/\eP c/\c.az.r.room=i.az.r.room/\c.az.bu.l.length=0) ah (λE w=>Calls.mono (MO E i (w.cb ah).k2 j.br C D J ⟨A.1,aa⟩) λR S F=>aX.star F) λx z=>?_;refine ap ?_;refine dh (H':=ag a (aK<|b0 d u o ⟨h,i,false,m,n,p,q,v⟩)<|G.aD::b0 d u o ⟨k,x,false,m,n,p,q,v⟩) ?_ (Sub.refl _) (λT H=>by have I:x.g=i.g:=z.1;simp only[b0,eu,n2,bM.cG,bM.dY,I];exact H.aF ah);refine fa ?_;exact λZb V=>aX.cf (G,⟨k,x,false,m,n,p,q,⟨none,0,[]⟩⟩) ⟨⟨t.2.1,z.2.1,⟨t.2.2.1.trans j.room.1,z.2.2.1.trans j.room.2⟩,j.bt,j.cy,by have Zc:k.az.bu.l.length<=1:=t.2.2.2.1;have Zd:=z.2.2.2;show k.az.bu.l.length+x.az.bu.l.length+0<=b+1;omega,by dsimp only;omega,λZe A=>(by cases A),j.md⟩,t.2.2.2.2⟩ rfl<|(V.e4 234 ne).aF ah
 have P: ∀e,e∈aK (a8 i)->e∈aK (b0 d u o ⟨h,i,true,m,n,p,q,v⟩):=λe s=>er.2 ⟨aZ<|a8 i,by simp,s⟩
 refine bX func76 ntmps76 W ?_;refine a6 ?_;refine cU (pK · d u _ ·) ?_;refine ap ?_;refine bK (l0:=[aZ (a8 i)]) (v:=λc:e7 × bA=> .tuple #[yr c.1,z0]) (l':=λc=>[aZ (a8 c.2++[c.1.aD])]) (ok:=λc=>c.2.g=i.g/\eP c.2/\c.2.az.r.room=i.az.r.room/\c.2.az.bu.l.length<=1/\c.1.l.length=B+1) ah (hargs:=rfl) (λE w=>Calls.mono (MQ E i (w.cb ah).k2 j.br C D J A (λe=>K e/\e<a.heap.size) L B M O ((X.iz aW).ext w.ext λe s=>N e s.1) (λe s Q=>N e s.1<|P e Q) Y) λR S F=>aX.star F) λ⟨G,k⟩ t=>gQ ?_;refine dh (H':=ag a (aK<|b0 d u o ⟨h,i,true,m,n,p,q,v⟩)<|G.aD::b0 d u o ⟨h,k,true,m,n,p,q,v⟩) ?_ (Sub.refl _) (λT H=>by have I:k.g=i.g:=t.1;have U:=H.Bi;simp only[b0,eu,n2,bM.cG,bM.dY,I];exact U.aF ah);refine a7 ?_;refine d9 (q:=1) underlying117 rD rfl rfl rfl bo aa<|ap ?_;refine bK (l0:=[aZ (a8 h)]) (v:=λ_:bA=>z0) (l':=λc=>[aZ (a8 c)]) (ok:=λc=>c.g=h.g/\eP c/\c.az.r.room=h.az.r.room/\c.az.bu.l.length=0) ah (λE w=>Calls.mono (MO E h (w.cb ah).k2 j.am C D J ⟨A.1,aa⟩) λR S F=>aX.star F) λx z=>?_;refine ap ?_;refine dh (H':=ag a (aK<|b0 d u o ⟨h,i,true,m,n,p,q,v⟩)<|G.aD::b0 d u o ⟨x,k,true,m,n,p,q,v⟩) ?_ (Sub.refl _) (λT H=>by have I:x.g=h.g:=z.1;simp only[b0,eu,n2,bM.cG,bM.dY,I];exact H.aF ah);refine fa ?_;exact λZb V=>aX.cf (G,⟨x,k,true,m,n,p,q,⟨none,0,[]⟩⟩) ⟨⟨z.2.1,t.2.1,⟨t.2.2.1.trans j.room.1,z.2.2.1.trans j.room.2⟩,j.bt,j.cy,by have Zc:k.az.bu.l.length<=1:=t.2.2.2.1;have Zd:=z.2.2.2;show x.az.bu.l.length+k.az.bu.l.length+0<=b+1;omega,by dsimp only;omega,λZe A=>(by cases A),j.md⟩,t.2.2.2.2⟩ rfl<|(V.e4 234 ne).aF ah
