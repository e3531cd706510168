/- part 39 of the proof -/
import Derived.Test.YtnfmgboendlmaaaGreatDoorQ38
set_option linter.all false
namespace Go.Proofs.YtnfmgboendlmaaaGreatDoor.Mq
open RowKit Tryz
variable [Inhabited vP]{B:Int}{K Q j:List Chunk}{D:List Nat}{o:List aL}{u:List bG}{E:List b_}{U:List n1}{O b:Nat}{v:Type}{M e:World}{I:bG}{Z:b_}{W:cm}{V:dp}(d:World)(C:gd)(X:List aL)(k:Nat->Prop)(H:cm)(R:n1)(S:List n1)(h:Nat)(f:Option Addr)(F:List bq)(J:Nat)
def yq :gd:=if R.told=false then tV C ⟨R.im,R.lP,R.li⟩ else if R.kind=7 then C else hS C ⟨R.kind,R.code,R.has,R.text⟩ ⟨R.row,R.dL⟩
def ud :gd:=S.foldl yq C
def YQ{c:n1}(a:U[b]? = some c):ud C (U.take<|b+1)=yq (ud C<|U.take b) c:=by
 unfold ud;rw[hA,a,List.foldl_append];rfl
def gW.mono{M:Int}(a:gW V B)(b:B<=M):gW V M:=⟨{ a.wf with ids:=⟨a.wf.ids.1,Int.le_trans a.wf.ids.2 b⟩ },a.bV⟩
structure YR (s:cm) (m:Nat) (N:Int) (i:cm):Prop where
 g:i.g=s.g
 ok:dn i m (N+m)
 st:i.st.abs=ud s.st.abs (ju s.T.abs).aQ
 T:i.T.abs= { ju s.T.abs with aQ:=[] }
 p:i.p=s.p
 es:i.es=s.es
 room:i.az.r.room=s.az.r.room
def dn.Fc(c:dn W b B){a:Int}(d:W.az.r.room=a):cK W.cB a b W.T:=d▸c.T
def Mz(C:dn H b B)(Zc:bc d [cl H])(Zd:b<=1460000000000)(Zr:B<=900000000000000):ay 67 [ptr H.g] d (aX (λ_:cm=> .tuple #[]) [cl H] (λw=>[cl w]) (YR H b B) d):=by
 obtain⟨i,k,m,f,e,x,j,r,n,o,p⟩:=H;have V:=C.Fc rfl
 have W:=C.st
 have X:=C.dv
 dsimp only at V W X
 refine calls (n:=58) func67 rfl ntmps67 rfl ?_;refine dh (H':=ag d (aK [cl ⟨i,k,m,f,e,x,j,r,n,o,p⟩])<|dl ⟨i,k,m,f,e,x,j,r,n,o,p⟩) ?_ (Sub.refl _) (λY N=>by have a:=(Zc.start Y N).open (l:=dl ⟨i,k,m,f,e,x,j,r,n,o,p⟩) bx;rwa [eZ] at a);refine aH ?_;refine la (lc:=fl e f e.g x) c6<| (dg) (KC · f e.g eS x · V Zd) λ⟨D,s⟩ Ze=>a7 ?_
 refine dh (H':=ag d (aK [cl ⟨i,k,m,f,e,x,j,r,n,o,p⟩])<|s.aD::dl ⟨i,k,m,f,e,D,j,r,n,o,p⟩) ?_ (Sub.refl _) λY N=>(N.close (l:=fl e f e.g D) ah).aF ah;obtain⟨h,Z,Za,Zf,Zb⟩:=Ze;dsimp only at h Z Za Zf Zb
 refine av ?_;refine cd (ι:=Nat × dp × iY) (λc=>[(0,ptr i),(8,s.val),(9,ad (s.l.length:Int)),(10,ad (c.1 :Int))]) (λc=>ag d (aK [cl ⟨i,k,m,f,e,x,j,r,n,o,p⟩])<|s.aD::dl ⟨i,k,m,f,e,D,c.2.1,c.2.2,n,o,p⟩) (λc=>c.1<=s.l.length/\c.2.1.g=j.g/\c.2.2.g=r.g/\gW c.2.1 (B+c.1)/\tT c.2.2/\c.2.1.abs=ud j.abs (s.l.take c.1)) (λc=>s.l.length - c.1) ?_ ?_;exact λJ Zg=>⟨(0,j,r),⟨b4 _,rfl,rfl,by simpa using W,X,rfl⟩,(da rfl rfl rfl rfl),Zg⟩
 rintro⟨w,t,E⟩ ⟨Zh,K,L,F,G,O⟩;dsimp only at Zh K L F G O ⊢
 refine (aE) (λZi=>?_) λZi=>aI ?_;obtain⟨v,P⟩ : ∃v,s.l[w]? = some v:=⟨_,bD aa⟩;have Zj:=Zb v<|cR P
 have M:=YQ j.abs P
 rw[<-O] at M
 refine aH ?_;refine ik (E:=ne) bw s4 rfl rfl rfl bo aa λZs Zk=>cE (vs:=v.enc) Gi rfl rfl rfl (λZt Zl Zm Zn Zo=>Zl.hG (E:=ne) bw Zk P Zm Zn Zo)<|av ?_;intro Zu Zv Zw;refine fR (vs:=v.enc) Gi rfl rfl (bC.whole cJ bo) rfl (hg rfl rfl rfl rfl rfl rfl rfl rfl rfl rfl) (by exact ej rfl)<|bP ?_;refine cD rfl (λu=>?_) λu=>?_;have Zp:=u
 simp only[cq] at u
 refine av ?_;refine bN [0,1,2,3,4,5] 1 [[(6,true,[])]] ?_;refine aY ?_;refine dE (λy z=>Calls.mono (Xz y t z.k2 F ⟨v.im,v.lP,v.li⟩) λQ J a=>aX.star a) λI q=>?_;refine a7 ?_;refine bN [0,1,2,3,4,5] 1 [[(6,true,[])]] ?_;refine aY ?_;refine dE (λy z=>Calls.mono (WV y E z.k2 G ⟨v.im,v.lP,v.li⟩) λQ J a=>aX.star a) λR A=>?_;refine be ?_;exact bv (w+1,I,R) ⟨aa,q.g.trans K,A.g.trans L,q.ok.mono bL,A.ok,by dsimp only;rw[M,q.abs,yq,aB u]⟩ bL b5 (λ_ a=>by have S:=q.g;have T:=A.g;simp only[dl,cm.aq,wc,S,T];exact a.aF ah);have Zp:=u
 simp only[cq] at u
 refine (aE) (λU=>?_) λU=>?_;refine bN [0,1,2,3,4,5,6] 1 [[(7,true,[])]] ?_;refine a6 ?_;refine dE (λy z=>Calls.mono (WH y E z.k2 G ⟨v.row,v.dL⟩) λQ J a=>aX.star a) λR A=>?_;refine be ?_;exact bv (w+1,t,R) ⟨aa,K,A.g.trans L,F.mono bL,A.ok,by dsimp only;rw[M,yq,ai<|by rw[u];decide,aB U]⟩ bL b5 (λ_ a=>by have T:=A.g;simp only[dl,cm.aq,wc,T];exact a.aF ah);refine bN [0,1,2,3,4,5,6,7,8,9] 1 [[(10,true,[])]] ?_;refine b6 ?_;refine bK (l0:=[aZ (du t)]) (v:=λ_:dp=> .tuple #[]) (l':=λI=>[aZ (du I)]) (ok:=k1 t (B+w) ⟨v.kind,v.code,v.has,v.text⟩ ⟨v.row,v.dL⟩) ah (λy z=>Calls.mono (Xm y t (z.cb ah).k2 F aa ⟨v.kind,v.code,v.has,v.text⟩ Zj ⟨v.row,v.dL⟩) λQ J a=>aX.star a) λI q=>be ?_;exact bv (w+1,I,E) ⟨aa,q.g.trans K,L,q.ok.mono bL,G,by dsimp only;rw[M,yq,ai<|by rw[u];decide,ai U,q.abs]⟩ bL b5 (λ_ a=>by have S:=q.g;simp only[dl,cm.aq,wc,S];exact a.aF ah);intro Zx Zq;refine aX.cf ⟨i,k,m,f,e,D,t,E,n,o,p⟩ ⟨rfl,⟨C.par,?_,F.mono aa,G,C.mp,C.top⟩,?_,Za,rfl,rfl,h.room.1⟩ rfl<|(Zq.close (l:=dl ⟨i,k,m,f,e,D,t,E,n,o,p⟩) ah).aF ah;exact⟨h.am,h.br,⟨rfl,h.room.2⟩,h.bt,h.cy,h.bu,h.buf,h.aQ,h.md⟩;show t.abs=_;rw[O,eT aa,Z]
structure MA (s:cm) (m:Nat) (N:Int) (L:List UInt8) (i:cm):Prop where
 g:i.g=s.g
 ok:dn i (m+8000000*L.length) (N+(m+8000000*L.length:Nat))
 ex: ∃bp,vW s.p s.T.abs L i.p bp/\i.st.abs=ud s.st.abs (ju bp).aQ/\i.T.abs= { ju bp with aQ:=[] }
 most:i.p.most=s.p.most
 es:i.es=s.es
 room:i.az.r.room=s.az.r.room
def MB{N:Int}(t:dn H b N)(Q:bc d [cl H])(R:b<=100000000000)(Z:N<=800000000000000)(y:Option Addr)(u z:Nat)(A:List UInt8)(E:Rd cI d (λv=>v∉aK [cl H]) y u z A)(Za:u<=1000):ay 21 [ptr H.g,.slice y u z] d (aX (λ_:cm=> .tuple #[]) [cl H] (λB=>[cl B]) (MA H b N A) d):=by
 have S:=E.len
 obtain⟨f,h,i,a,c,e,j,k,l,m,n⟩:=H;have F:=t.Fc rfl
 have G:=t.st
 have I:=t.dv
 dsimp only at F G I
 have U: ∀v,v∉aK [cl ⟨f,h,i,a,c,e,j,k,l,m,n⟩]->v∉aK (fl c a c.g e):=(λv V w=>V (by
  rw[show aK [cl ⟨f,h,i,a,c,e,j,k,l,m,n⟩]=aK (dl ⟨f,h,i,a,c,e,j,k,l,m,n⟩) by simp[aK,aZ]];exact er.2 ⟨aZ<|fl c a c.g e,by simp,w⟩))
 refine calls (n:=14) func21 rfl ntmps21 rfl ?_;refine dh (H':=ag d (aK [cl ⟨f,h,i,a,c,e,j,k,l,m,n⟩])<|dl ⟨f,h,i,a,c,e,j,k,l,m,n⟩) ?_ (Sub.refl _) (λJ C=>by have w:=(Q.start J C).open (l:=dl ⟨f,h,i,a,c,e,j,k,l,m,n⟩) bx;rwa [eZ] at w);refine cZ ?_;refine la (lc:=fl c a c.g e) c6<| bK (l0:=fl c a c.g e) ah (hargs:=rfl) (λD x=>KG D a c e (x.cb ah) t.par F y u z A ((E.ext x.ext λ_ w=>w).d8 U) aa R) λ⟨q,r⟩ W=>aA ?_
 obtain⟨K,L,M,o,O⟩:=W;dsimp only at K L M o O
 refine dh (H':=ag d (aK [cl ⟨f,h,i,a,c,e,j,k,l,m,n⟩]) [cl ⟨f,h,i,a,q,r,j,k,l,m,n⟩]) ?_ (Sub.refl _) (λJ C=>by have P:=C.close (l:=fl q a c.g r) ah;rw[show fl q a c.g r=fl q a q.g r by rw[K]] at P;exact (P.close (l:=dl ⟨f,h,i,a,q,r,j,k,l,m,n⟩) ah).aF ah);have X:dn ⟨f,h,i,a,q,r,j,k,l,m,n⟩ (b+8000000*u) N:=⟨L,⟨o.am,o.br,⟨rfl,o.room.2⟩,o.bt,o.cy,o.bu,o.buf,o.aQ,o.md⟩,G,I,t.mp,t.top⟩
 refine aA ?_;refine bK (l0:=[cl ⟨f,h,i,a,q,r,j,k,l,m,n⟩]) ah (hargs:=rfl) (λD x=>Mz D _ X (x.cb ah) aa aa) λB s=>aA ?_;intro Zb Y;refine eV B ⟨s.g,?_,⟨r.abs,s.p.symm▸O,s.st,s.T⟩,by rw[s.p];exact M,s.es,?_⟩ Y;rw[S];exact s.ok
 rw[s.room];exact o.room.1
abbrev hx :Prop:= ∀a∈X,mg a
def lX(b:List b_):Prop:= ∀a∈b,a.cells.length=h/\hx a.cells
def lX.snoc(c:lX b E)(d:Z.cells.length=b/\hx Z.cells):lX b (E++[Z]):=λe a=>by
 rcases dq.1 a with a | a
 exact c e a;rw[e0] at a;subst a;exact d
def MC(a:hx o):hx (b7 o):=vl a
def YS(b:hx o):hx (wT o):=MC (λe d=>by
 obtain⟨a,c,rfl⟩:=ei.1 d;unfold pp;split
 exact It a<|b a c;exact b a c)
def p1(left:List aL)(a:Nat):List aL:=left.take (fH left a)++List.replicate (a - fH left a) eo
def YT(left:List aL)(al:Nat): (p1 left al).length=al:=by
 have:=B9 left al
 unfold p1;rw[b3,dR,hy];omega
def YU{left:List aL}(b:hx left)(c:Nat):hx (p1 left c):=λd a=>by
 rcases dq.1 a with a | a
 exact b d<|hz a;rw[(uk.1 a).2];exact CU
def YV(b:hx o)(c:Nat):hx (o.set c rM):=λd a=>by
 rcases sF a with a | rfl
 exact b d a;exact Iu
def YW{left:List aL}(a:fH left b<b): (bW.all<|p1 left b).set (fH left b*8+2) (ad 3)=bW.all ((p1 left b).set (fH left b) rM):=by
 refine bW.rx (j:=2) (a':=rM) (v:=ad 3) (a:=eo) ?_ aW rfl;have:=B9 left b
 unfold p1;rw[i_ (by rw[dR];omega),dR,sA,aB aa]
structure YX where
 z:dz
 A:Option Addr
 n:Nat
 c:Nat
 left:List aL
def YY(x t:Nat)(l:List aL)(al:Nat)(H:Rd bW d k f x t l)(T:x<=1000000)(U:2<=al)(V:al<=1000)(W:hx l):
 ay 383 [.slice f x t,ad (al:Int)] d (aX (λa:dz=>a.val) [] (λa=>[a.aD,a.cw]) (λa=>lX al a.l/\1<=a.l.length/\a.l.length<=l.length+1) d):=by
 have Zj:=H.len
 refine ba func383 ntmps383 ?_;refine a6 ?_;refine bF (wS · _) ?_;refine ap ?_;refine ff rfl (by simp;omega) ?_;refine aI ?_;refine yM (λu o=>OF u k f x t l (H.ext o.ext au) T) λZk p X Y Z Zl Zm Za I=>a6 ?_;have J:=OE l
 have Zb:=YS W
 have Zn:=I.len
 refine dh (H':=ag p [] [dz.aD ⟨none,0,[]⟩,dz.cw ⟨none,0,[]⟩]) (av ?_) (Sub.refl _) λv B=>((B.e4 39 cx).pG).aF ah;refine cd (ι:=YX) (λe=>[(1,ad (al:Int)),(5,.slice e.A e.n e.c),(6,e.z.val)]) (λe=>ag p [] [e.z.aD,e.z.cw]) (λe=>lX al e.z.l/\Rd bW p (λ_=>True) e.A e.n e.c e.left/\hx e.left/\(e.z.l.length=0->e.left.length<=l.length)/\e.z.l.length+e.left.length<=l.length+1) (λe=>if e.z.l.length=0 then l.length+2 else e.left.length) ?_ ?_;exact λu o=>⟨⟨⟨none,0,[]⟩,X,Y,Z,wT l⟩,⟨λ_ b=>by simp at b,I.d8 λ_ _=>bh,Zb,λ_=>by rw[J];exact cC _,by show 0+_<=_;rw[J];omega⟩,(ed rfl rfl rfl),o⟩
 rintro⟨a,q,i,r,left⟩ ⟨C,s,D,Zc,Zd⟩;dsimp only at C s D Zc Zd ⊢
 have Zo:=s.len
 have Zp:=s.cap
 have Zq:=B9 left al
 have K:left≠[]->1<=fH left al:=λb=>OG left al U b
 refine aA ?_;refine gA (λm:Bool=>[(1,ad (al:Int)),(5,.slice q i r),(6,a.val),(21,.bool m)]) (λ_=>ag p [] [a.aD,a.cw]) (λm=>m=true↔(a.l.length=0\/0<i)) (aI ?_) ?_;refine bl 17 rfl (λj=>?_) λj=>?_;have E:=bg j
 refine aI ?_;refine dN _ ?_ (da rfl rfl rfl rfl) λ_ b=>b;exact⟨λ_=> .inl aa,λ_=>rfl⟩;have E:=bm j
 refine aY ?_;refine dN _ ?_ (da rfl rfl rfl rfl) λ_ b=>b
 (simp only[eQ];omega)
 rintro m L;refine av ?_;refine cD rfl (λF=>?_) λF=>cn ?_;have Zr:=L.1 F
 have y:=YT left al
 have M:=YU D al
 have N:=OH left al
 have O:=s.cut (p:=0) (q:=fH left al) aa aa
 have P:=s.cut (p:=fH left al) (q:=i) aa<|cC _
 rw[ol] at O
 rw[eT (show left.length<=i by omega)] at P
 have Ze:a.l.length+1+(left.length - fH left al)<=l.length+1:=by
  by_cases w:left=[]
  subst w;simp only[gN] at *;omega
  have:=K w;omega
 have Zf:left.length - fH left al<(if a.l.length=0 then l.length+2 else left.length):=by
  by_cases w:left=[]
  subst w;simp only[gN] at *;split <;> omega
  have:=K w;split <;> omega
 refine aU ?_;refine bd (hargs:=rfl) (λu o=>B7 u _ q i r left al (s.ext o.ext au) aa aa V)<|aH ?_;refine sT al dj rfl rfl rfl rfl (by simp only[maxLen];omega) aa λh Zs Zt=>?_;refine a7 ?_;rw[B_];refine a7 ?_;refine gp 0 (fH left al) dj rfl rfl (.inr ⟨rfl,rfl⟩) (.inl ⟨_,_,rfl,rfl,rfl⟩) aa aa<|F3 (E:=bW) (src:=left.take<|fH left al) dj rfl rfl rfl cJ (λu o=>O.ext o.ext au) aa<|a7 ?_;rw[lv,OI,List.drop_replicate,<-bW.all_append];refine dh (H':=ag p [] [b_.aQ ⟨some ⟨h,0,none⟩,al,false,p1 left al⟩,a.aD,a.cw]) ?_ (Sub.refl _) (λv B=>by simp only[b_.aQ,ep,b_.val,y];exact B);refine ap ?_;refine gp (fH left al) i dj rfl rfl (.inl ⟨_,_,rfl,rfl,rfl⟩) (.inr ⟨rfl,rfl⟩) aa aa<|a7 ?_;refine gA (λm:Bool=>[(1,ad (al:Int)),(5,.slice (if r=fH left al then q else q.map λv=>v.add<|fH left al*8) (i - fH left al)<|r - fH left al),(6,a.val),(7,ad (fH left al:Int)),(8,.slice (some ⟨h,0,none⟩) al al),(43,.bool m)]) (λ_=>ag p [] [b_.aQ ⟨some ⟨h,0,none⟩,al,false,p1 left al⟩,a.aD,a.cw]) (λm=>m=true->fH left al<al) ?_ ?_;refine aH ?_;refine bl 39 rfl (λj=>?_) λj=>?_;have E:=bg j
 refine aY ?_;refine dN _ ?_ (jF rfl rfl rfl rfl rfl rfl) λ_ b=>b;exact λ_=>by omega
 have E:=bm j
 refine aI ?_;refine dN _ ?_ (jF rfl rfl rfl rfl rfl rfl) λ_ b=>b;exact λb=>Bool.noConfusion b
 rintro Zu G;refine av ?_;refine gA (λ_:List aL=>[(1,ad (al:Int)),(5,.slice (if r=fH left al then q else q.map λv=>v.add<|fH left al*8) (i - fH left al)<|r - fH left al),(6,a.val),(8,.slice (some ⟨h,0,none⟩) al al)]) (λg=>ag p [] [b_.aQ ⟨some ⟨h,0,none⟩,al,false,g⟩,a.aD,a.cw]) (λg=>g.length=al/\hx g) ?_ ?_;refine cD rfl (λj=>ap ?_) λj=>av ?_;refine bE (q:=fH left al) dj rfl rfl rfl rfl rfl (by have:=G bR;omega) ?_;refine av ?_;refine mE (o:=fH left al*8+2) bY rfl rfl cJ (by simp[Addr.add_lit]) rfl (by have:=G bR;rw[bW.eD,y];show _<_*8;omega) ?_;refine av ?_;exact dN ((p1 left al).set (fH left al) rM) ⟨by rw[gx,y],YV M _⟩ (da rfl rfl rfl rfl) (λ_ b=>by rw[YW (G bR)] at b;simp only[b_.aQ,ep,b_.val,gx] at b ⊢;exact b);exact dN (p1 left al) ⟨y,M⟩ b5 λ_ b=>b;rintro g ⟨Q,Zg⟩;refine aY ?_;refine ef (E:=cx) (a:=⟨some ⟨h,0,none⟩,al,decide<|(a.l.length:Int)>0,g⟩) dy rfl rfl rfl rfl (by show [Value.slice _ al al,_]=[Value.slice _ g.length al,_];rw[Q]) λZv _ _=>?_;refine fu (E:=cx) dy rfl rfl rfl bx (λ_ _=>fs) cg cg λR S=>ap ?_;refine bv ⟨⟨R,S,a.l++[⟨some ⟨h,0,none⟩,al,decide<|(a.l.length:Int)>0,g⟩]⟩,_,_,_,B8 left al⟩ ⟨C.snoc ⟨Q,Zg⟩,P,λt Zh=>D t<|kv Zh,λb=>by simp at b,?_⟩ ?_ (ed rfl rfl rfl) λ_ b=>(ag.vD (l:=a.l) (g:=⟨some ⟨h,0,none⟩,al,decide<|(a.l.length:Int)>0,g⟩)<|b.aF (l:=[a.cw,b_.aQ ⟨some ⟨h,0,none⟩,al,decide<|(a.l.length:Int)>0,g⟩,aD 39 cx R S<|a.l++[⟨some ⟨h,0,none⟩,al,decide<|(a.l.length:Int)>0,g⟩]]) ah).aF ah;dsimp only;rw[b3,kt,N];exact Ze
 dsimp only;rw[b3,kt,ai aa,N];exact Zf
 exact λZw Zi=>aX.cf a ⟨C,by have: ¬(a.l.length=0\/0<i):=λb=>Bool.noConfusion<|(L.2 b).symm.trans F;omega,aa⟩ rfl<|Zi.Bs Za.ext au
structure MD where
 A:Option Addr
 n:Nat
 c:Nat
 bZ:Nat
 aw:Nat
abbrev sr(e:b1 v)(f:List v)(a:MD):Chunk:=tE a.bZ a.aw (Rd e · (λb=>a.bZ<=b/\b<a.aw) a.A a.n a.c f) λ_ _ g h=>Rd.loc h λb d=>g b d.1 d.2
def jC.fI{b:b1 v}(l:0<b.ax){d:List v}{f:Ending}(m:jC b e d f M):aX (λa:MD=> .slice a.A a.n a.c) [] (λa=>[sr b d a]) (λa=>a.n=d.length) e f M:=by
 obtain⟨o,p,g,rfl,q,h⟩:=m;refine⟨⟨o,p,g,e.heap.size,M.heap.size⟩,h.len.symm,rfl,q,?_,?_,?_⟩;simp only[aK,nA,rj,eZ];exact Ac _ _ _ _;intro g i;rw[e0] at i
 subst i;exact⟨λ_=>cC _,h.iz l⟩;intro k j r;simp only[aK,nA,rj,eZ] at j
 have:e.heap.size<=k:=(p8.1 j).1
 omega
def ss{E:b1 v}{f:Program}{h:Array Oper}{i:cN}{k:List Oper}{d:Fr}{r:TypeId}{s:String}{t:Array Edge}{l:World}{m n:Operand}{e g q c:Nat}{u:List Value}{A:Option Addr}{L:List v}{a:v}
 (w:de f O E.ax u) (x:bi d m=some (.pointer<|some<|(⟨g,0,none⟩ :Addr).add<|q*E.ax)) (y:bi d n=some (.agg (E.enc a).toArray)) (z:A=some ⟨g,0,none⟩) (o:q<L.length) (B:bC j (aD e E A c L) (aD e E A c<|L.set q a) K)
 (C:aM f b h i k d (ag l D K)):aM f b h i (⟨none,.store O m n,r,s,t,none⟩::k) d (ag l D j):=by
 subst z;refine oy (e:=e) (sz:=E.ax) (m:=L.length) (c:=c) (xs:=E.all L) w x y ?_ (by rw[Addr.add_lit,ev]) (E.len a) (E.kz a) ?_ C;rw[b1.kC E a o];have p:bC j (own e E.ax (.slice (some ⟨g,0,none⟩) L.length c) L.length<|E.all L) (own e E.ax (.slice (some ⟨g,0,none⟩) (L.set q a).length c) (L.set q a).length<|E.all<|L.set q a) K:=B
 rw[gx] at p
 exact p;rw[E.len,E.eD];have:=mB E.ax o
 rw[qc] at this
 exact this
def YZ(a:Int)(f:1<=F.length):0<=(lC F a).row/\(lC F a).row<(F.length:Int)/\0<=(lC F a).dL:=by
 have d:=G4 F<|max 0 a
 obtain⟨g,c,h⟩:=d;unfold lC;rw[ai aa];split
 rename_i e;have i:=zb (rows:=F) (j:=F.length - 1) (k:=F.length) aa
 have b:=c (F.length - 1) aa
 rw[show F.length - 1+1=F.length by omega] at b
 dsimp only;omega
 rename_i e;dsimp only;refine⟨aa,aa,?_⟩;rcases hV (qt F<|max 0 a) with ar | ar
 rw[ar];simp[gC,cellsOf];omega
 have b:=c (qt F (max 0 a) - 1) aa
 rw[show qt F (max 0 a) - 1+1=qt F (max 0 a) by omega] at b
 omega
def Y0{rows:List bq}(d: ∀b∈rows,hx b.1):hx (tb rows):=λe c=>by
 unfold tb B3 at c
 refine MC (λf a=>?_) e<|hz c;obtain⟨a,_⟩:=List.mem_filter.1 a;obtain⟨b,g,a⟩:=List.mem_flatMap.1 a;exact d b g f a
abbrev Good(b:List bG)(c:Nat):Prop:= ∃a,b[0]? = some a/\0<=a.row/\a.row<(c:Int)/\0<=a.dL
def Good.mono{s:Nat}(a:Good u b)(g:b<=s):Good u s:=by
 obtain⟨c,d,e,h,f⟩:=a;exact⟨c,d,e,aa,f⟩
def Good.set{r:Nat}(a:Good u r)(f:1<=b):Good (u.set b I) r:=by
 obtain⟨c,d,e⟩:=a;exact⟨c,by rw[ks aa];exact d,e⟩
structure ME where
 i:Nat
 z:dz
 q:List bG
structure Y1 (w:World) (rows:List bq) (l:List bG) (n m al:Nat) (L:List (Int × Int)) (t:ME):Prop where
 i:t.i<=L.length
 wide:lX al t.z.l
 len:t.z.l.length<=t.i*100001
 q:t.q.length=m
 aQ: ∃a:Nat,uM rows n a (L.drop t.i)/\a<=n/\ ∀p,l[0]? = some p->0<=p.row->p.row<(a:Int)->Good t.q t.z.l.length
def lX.oG{c:List b_}(e:lX b E)(f:lX b c):lX b (E++c):=λd a=>by
 rcases dq.1 a with a | a
 exact e d a;exact f d a
def MF{a:Nat}(c:b<u.length)(d:b=0)(e:0<=I.row/\I.row<(a:Int)/\0<=I.dL):Good (u.set b ⟨I.row+(O:Int),I.dL⟩) (O+a):=by
 subst d;exact⟨_,oo c,by dsimp only;omega,by dsimp only;omega,e.2.2⟩
def Fe : ∀{l:List b_},lX b l->e1 (b2 l)=l.length*b
 | [],_=>by simp[e1]
 | g::l,a=>by
  have f:=(a g au).1
  have c:=Fe (l:=l) λd e=>a d (by simp[e])
  simp only[e1,ku,List.sum_cons,dV] at c ⊢
  rw[c,qc];show g.cells.length+_=_
  omega
def MG{a:List bq}(b:bG)(c:e1 a<=100000): -9223372036854775808<=lc a b/\lc a b<=9223372036854775807:=by
 have:=OU a b
 omega
def Y2(Zp:Nat->Prop)(P Q:Option Addr)(n c m R:Nat)(rows:List bq)(l:List bG)(J:Nat)(Za:dT d k P n c rows)(Zb:Rd c1 d Zp Q m R l)(Z6:n<=1000)(Z7:e1 rows<=100000)(Z8:m<=1000000)(ZB:2<=J)(ZC:J<=1000)(ZD: (e1 rows+1)*J<=1000000)(ZE: ∀Zf∈rows,hx Zf.1):
 ay 311 [.slice P n c,ad (J:Int),.slice Q m R] d (aX (λe:dz × e7=> .tuple #[e.1.val,e.2.val]) [] (λe=>[e.1.aD,e.1.cw,e.2.aD]) (λe=>lX J e.1.l/\e.1.l.length<=200000000/\e.2.l.length=m/\ ∀p,l[0]? = some p->0<=p.row->p.row<(n:Int)->Good e.2.l e.1.l.length) d):=by
 have Z9:=Za.len
 have ZF:=Zb.len
 refine ba func311 ntmps311 ?_;refine a6 ?_;refine rv 44 2 ?_;refine rR (E:=c1) (src:=l) (F:=Zp) (m:=0) (xs:=[]) l.length aa eR rfl rfl rfl (λ_=>by exact cJ) (λZg O=>Zb.ext O.ext au) (by simp only[maxLen];omega) aa λy B=>?_;refine aU ?_;refine kA (e:=44) (sz:=2) (v:= .slice y l.length B) bw λZaa Zab ZG _ _ _ Zq=>?_;cases ZG
 refine bF (wS · _) ?_;refine ap ?_;refine ff rfl (by simp;omega) ?_;refine bP ?_;refine bK (l0:=[]) aP.nil (hargs:=rfl) (λw u=>Mb w _ P n c rows (Za.ext u.ext au) aa) λx Zr=>a7 ?_;refine dh (H':=ag d [] [dz.aD ⟨none,0,[]⟩,dz.cw ⟨none,0,[]⟩,aD 44 c1 y B l,x.aD]) ?_ (Sub.refl _) λZac ZH=>((ZH.e4 39 cx).pG).aF ah;have ZI:=Ca rows n
 rw[<-Zr] at ZI
 have Zs:=Cb rows n
 rw[<-Zr] at Zs
 refine av ?_;refine cd (ι:=ME) (λe=>[(0,.slice P n c),(1,ad (J:Int)),(2,.slice Q m R),(8,.slice y l.length B),(9,e.z.val),(29,x.val),(30,ad (x.l.length:Int)),(31,ad (e.i:Int))]) (λe=>ag d [] [e.z.aD,e.z.cw,aD 44 c1 y B e.q,x.aD]) (Y1 d rows l n m J x.l) (λe=>x.l.length - e.i) ?_ ?_;exact λZg O=>⟨⟨0,⟨none,0,[]⟩,l⟩,⟨b4 _,λ_ g=>by simp at g,b4 _,ZF,0,Zs,b4 _,λp _ b j=>by omega⟩,(po rfl rfl rfl rfl rfl rfl rfl rfl),O⟩
 rintro⟨S,s,q⟩ ⟨ZJ,Zh,ZK,Zi,a,U,Zad,Zj⟩;dsimp only at ZJ Zh ZK Zi U Zj ⊢
 refine (aE) (λZL=>?_) λZL=>?_;obtain⟨ZM,ZN⟩ : ∃v,x.l[S]? = some v:=⟨_,bD aa⟩;have ZO:x.l.drop S=ZM::x.l.drop (S+1):=by
  obtain⟨b,j⟩:=cH.1 ZN;rw[lY b,j]
 rw[ZO] at U
 obtain⟨o,rfl,Zae,Zt,_,_,ZP⟩:=Cc U;have Zu:=Za.cut (p:=a) (q:=o) aa Zt
 have Zaf:=Za.za
 have Zag:e1 ((rows.take o).drop a)<=e1 rows:=ge (OQ _ _)<|B6 _ _
 have Zah:=OT<|(rows.take o).drop a
 have Zai: ((rows.take o).drop a).length=o - a:=by rw[fL,dR];omega
 have ZQ:=Y0 (rows:=(rows.take o).drop a) λZf g=>ZE Zf<|hz<|kv g
 refine aH ?_;refine ik (E:=oJ) hL uB rfl rfl rfl bo aa λZaj ZR=>cE BL rfl rfl rfl (λZak ZS f V K=>ZS.hG (E:=oJ) hL ZR bR f V K)<|av ?_;intro Zv Zal Zam;refine aH ?_;refine d9 (q:=0) underlying305 ic rfl rfl rfl bo aa<|av ?_;refine d9 (q:=1) underlying305 ic rfl rfl rfl bo aa<|av ?_;refine gp a o dy rfl rfl (.inl ⟨_,_,rfl,rfl,rfl⟩) (.inl ⟨_,_,rfl,rfl,rfl⟩) aa aa<|aH ?_;refine bK (l0:=[]) aP.nil (hargs:=rfl) (λw u=>(OD w k _ (o - a) (c - a) _ (Zu.ext u.ext au) aa aa).mono λ_ _ g=>g.fI aW) λZc Zan=>av ?_;refine bK (l0:=[]) aP.nil (hargs:=rfl) (λw u=>YY w _ Zc.A Zc.n Zc.c (tb<|(rows.take o).drop a) J ((u.has (c:=sr bW (tb<|(rows.take o).drop a) Zc) bw).2) aa ZB ZC ZQ) λh ZT=>aH ?_;obtain⟨Zw,ZU,Zao⟩:=ZT;have Zk:e1 (b2 h.l)<=1000000:=by rw[Fe Zw];exact ge (mB _ aa) ZD
 refine bK (l0:=[]) aP.nil (hargs:=rfl) (λw u=>(GZ w k _ (o - a) (c - a) _ (Zu.ext u.ext au) aa aa).mono λ_ _ g=>g.fI aW) λF ZV=>av ?_;refine bK (l0:=[]) aP.nil (hargs:=rfl) (λw u=>(GZ w _ h.A h.l.length h.c (b2 h.l) (nL (u.has (c:=h.aD) cz)<|u.has (c:=h.cw) cW) aa Zk).mono λ_ _ g=>g.fI aW) λG Zx=>b6 ?_;rw[qs] at ZV Zx
 rw[c8] at Zx
 refine av ?_;refine cd (ι:=Nat × List bG) (λe=>[(0,.slice P n c),(1,ad (J:Int)),(2,.slice Q m R),(8,.slice y l.length B),(9,s.val),(11,ptr Zv),(13,h.val),(14,.slice F.A F.n F.c),(15,.slice G.A G.n G.c),(29,x.val),(30,ad (x.l.length:Int)),(31,ad (S:Int)),(49,.slice Q m R),(50,ad (m:Int)),(51,ad (e.1 :Int))])
  (λe=>ag d [] [aG Zv [ad (a:Int),ad (o:Int)] 305,sr ct (j7<|b2 h.l) G,sr ct (j7<|(rows.take o).drop a) F,h.aD,h.cw,s.aD,s.cw,aD 44 c1 y B e.2,x.aD])
  (λe=>e.1<=m/\e.2.length=m/\(∀p,l[0]? = some p->0<=p.row->p.row<(a:Int)->Good e.2 s.l.length)/\ ∀p,l[0]? = some p->(a:Int)<=p.row->p.row<(o:Int)->1<=e.1->Good e.2 (s.l.length+h.l.length)) (λe=>m - e.1) ?_ ?_
 exact λZg O=>⟨(0,q),⟨b4 _,Zi,Zj,λ_ _ _ _ g=>by omega⟩,(Sub.cons rfl<|Sub.cons rfl<|Sub.cons rfl<|Sub.cons rfl<|Sub.cons rfl<|qo rfl rfl rfl rfl rfl rfl rfl rfl rfl rfl),O.aF ah⟩
 rintro⟨f,t⟩ ⟨K,D,E,N⟩;dsimp only at K D E N ⊢
 refine (aE) (λZW=>?_) λZW=>aY ?_;obtain⟨⟨I,T⟩,H⟩ : ∃p,l[f]? = some p:=⟨_,bD aa⟩;obtain⟨ZX,Zd,ZY,Ze⟩:=Zb.at_ H;obtain⟨W,L⟩:=Zq aa;have Zy: ∀X,0<=(lC (b2 h.l) X).row/\(lC (b2 h.l) X).row<(h.l.length:Int)/\0<=(lC (b2 h.l) X).dL:=λX=>by
  have:=YZ (b2 h.l) X (by rw[c8];exact ZU)
  rwa [c8] at this
 have ZZ:=Zy<|lc ((rows.take o).drop a) ⟨max 0 I - (a:Int),0⟩
 have Z0:=Zy<|lc ((rows.take o).drop a) ⟨max 0 I - (a:Int),T⟩
 refine aU ?_;refine bE (q:=f) eR rfl rfl rfl Zd rfl aa<|cE (vs:=[ad I,ad T]) fF rfl rfl rfl (λZz b f V K=>b.ch (Ze f V K) au)<|av ?_;intro Zap Zaq Zar;refine gQ ?_;refine bE (q:=f) eR rfl rfl rfl Zd rfl aa<|av ?_;refine bb (v:=ad I) bY rfl rfl (λZz b=>b.ch (Ze 0 _ rfl) au) ?_;refine (aE) (λY=>be ?_) λY=>aU ?_;refine d9 (q:=0) underlying305 ic rfl rfl rfl bo aa<|ap ?_;refine bl 72 rfl (λM=>?_) λM=>?_;have Zl:=bg M
 refine ft ?_;exact bv (f+1,t) ⟨aa,D,E,λp b j r _=>(hV f).elim (λC=>by subst C;rw[H] at b;cases b;exfalso;dsimp only at *;omega) (N p b j r ·)⟩ bL (Sub.cons rfl<|Sub.cons rfl<|Sub.cons rfl<|Sub.cons rfl<|Sub.cons rfl<|qo rfl rfl rfl rfl rfl rfl rfl rfl rfl rfl) λ_ g=>g.aF ah;have Zl:=bm M
 refine aI ?_;refine d9 (q:=1) underlying305 ic rfl rfl rfl bo aa ?_;refine (aE) (λZm=>aY ?_) λZm=>aH ?_;exact bv (f+1,t) ⟨aa,D,E,λp b j r _=>(hV f).elim (λC=>by subst C;rw[H] at b;cases b;exfalso;dsimp only at *;omega) (N p b j r ·)⟩ bL (Sub.cons rfl<|Sub.cons rfl<|Sub.cons rfl<|Sub.cons rfl<|Sub.cons rfl<|qo rfl rfl rfl rfl rfl rfl rfl rfl rfl rfl) λ_ g=>g.aF ah;refine d9 (q:=0) underlying305 ic rfl rfl rfl bo aa<|bP ?_;refine bd (hargs:=rfl) (λw u=>G0 w _ F.A F.n F.c ((rows.take o).drop a) ((u.has (c:=sr ct (j7<|(rows.take o).drop a) F) hL).2) _ _ aa aa)<|bd (hargs:=rfl) (λw u=>uO w _ G.A G.n G.c (b2 h.l) ((u.has (c:=sr ct (j7<|b2 h.l) G) cW).2) _ (MG _ aa) aa Zk)<|cZ ?_;refine bE (q:=f) eR rfl rfl rfl L rfl aa<|ss (E:=c1) (e:=44) (A:=y) (c:=B) (L:=t) (g:=W) (q:=f) (a:=(⟨_,_⟩ :bG)) fF rfl rfl L aa GH<|aU ?_
 (refine bv (f+1,t.set f ⟨(lC (b2 h.l)<|lc ((rows.take o).drop a) ⟨max 0 I - (a:Int),0⟩).row+(s.l.length:Int),(lC (b2 h.l)<|lc ((rows.take o).drop a) ⟨max 0 I - (a:Int),0⟩).dL⟩) ⟨aa,by dsimp only;rw[gx];exact D,λp b j r=>?_,λp b j r _=>?_⟩ bL (Sub.cons rfl<|Sub.cons rfl<|Sub.cons rfl<|Sub.cons rfl<|Sub.cons rfl<|qo rfl rfl rfl rfl rfl rfl rfl rfl rfl rfl) λ_ g=>g.aF ah;exact (hV f).elim (λC=>by subst C;rw[H] at b;cases b;exfalso;dsimp only at *;omega) ((E p b j r).set ·);exact (hV f).elim (MF aa · (ZZ)) λZ=>(N p b j r Z).set Z)
 refine d9 (q:=0) underlying305 ic rfl rfl rfl bo aa<|ap ?_;refine bl 72 rfl (λM=>?_) λM=>?_;have Zl:=bg M
 refine ft ?_;exact bv (f+1,t) ⟨aa,D,E,λp b j r _=>(hV f).elim (λC=>by subst C;rw[H] at b;cases b;exfalso;dsimp only at *;omega) (N p b j r ·)⟩ bL (Sub.cons rfl<|Sub.cons rfl<|Sub.cons rfl<|Sub.cons rfl<|Sub.cons rfl<|qo rfl rfl rfl rfl rfl rfl rfl rfl rfl rfl) λ_ g=>g.aF ah;have Zl:=bm M
 refine aI ?_;refine d9 (q:=1) underlying305 ic rfl rfl rfl bo aa ?_;refine (aE) (λZm=>aY ?_) λZm=>aH ?_;exact bv (f+1,t) ⟨aa,D,E,λp b j r _=>(hV f).elim (λC=>by subst C;rw[H] at b;cases b;exfalso;dsimp only at *;omega) (N p b j r ·)⟩ bL (Sub.cons rfl<|Sub.cons rfl<|Sub.cons rfl<|Sub.cons rfl<|Sub.cons rfl<|qo rfl rfl rfl rfl rfl rfl rfl rfl rfl rfl) λ_ g=>g.aF ah;refine d9 (q:=0) underlying305 ic rfl rfl rfl bo aa<|bP ?_;refine bd (hargs:=rfl) (λw u=>G0 w _ F.A F.n F.c ((rows.take o).drop a) ((u.has (c:=sr ct (j7<|(rows.take o).drop a) F) hL).2) _ _ aa aa)<|bd (hargs:=rfl) (λw u=>uO w _ G.A G.n G.c (b2 h.l) ((u.has (c:=sr ct (j7<|b2 h.l) G) cW).2) _ (MG _ aa) aa Zk)<|cZ ?_;refine bE (q:=f) eR rfl rfl rfl L rfl aa<|ss (E:=c1) (e:=44) (A:=y) (c:=B) (L:=t) (g:=W) (q:=f) (a:=(⟨_,_⟩ :bG)) fF rfl rfl L aa GH<|aU ?_
 (refine bv (f+1,t.set f ⟨(lC (b2 h.l)<|lc ((rows.take o).drop a) ⟨max 0 I - (a:Int),T⟩).row+(s.l.length:Int),(lC (b2 h.l)<|lc ((rows.take o).drop a) ⟨max 0 I - (a:Int),T⟩).dL⟩) ⟨aa,by dsimp only;rw[gx];exact D,λp b j r=>?_,λp b j r _=>?_⟩ bL (Sub.cons rfl<|Sub.cons rfl<|Sub.cons rfl<|Sub.cons rfl<|Sub.cons rfl<|qo rfl rfl rfl rfl rfl rfl rfl rfl rfl rfl) λ_ g=>g.aF ah;exact (hV f).elim (λC=>by subst C;rw[H] at b;cases b;exfalso;dsimp only at *;omega) ((E p b j r).set ·);exact (hV f).elim (MF aa · (Z0)) λZ=>(N p b j r Z).set Z)
 refine fu (E:=cx) dy rfl rfl rfl qn (λ_ _=>j5) cg aa λZn Zo=>aY ?_;refine bv ⟨S+1,⟨Zn,Zo,s.l++h.l⟩,t⟩ ⟨by dsimp only;omega,Zh.oG Zw,?_,D,o,ZP,Zt,λp b j r=>?_⟩ bL (po rfl rfl rfl rfl rfl rfl rfl rfl) λ_ g=>?_;dsimp only;rw[b3];omega
 dsimp only;have Zas:1<=m:=by have:=(cH.1 b).1;omega
 rw[b3];by_cases Z1:p.row<(a:Int)
 exact (E p b j Z1).mono aa;exact N p b aa r aa;have ZA:=(g.aF (l:=[s.cw,h.cw,aD 39 cx Zn Zo<|s.l++h.l,aD 44 c1 y B t,x.aD]) ah).DB
 rw[<-gF] at ZA
 exact ZA.aF (l:=[aD 39 cx Zn Zo (s.l++h.l),aZ<|(s.l++h.l).map b_.aQ,aD 44 c1 y B t,x.aD]) ah;have Z2:x.l.drop S=[]:=List.drop_eq_nil_of_le aa
 rw[Z2] at U
 have Zat:a=n:=by
  rcases U with ⟨_,g⟩ | ⟨Zau,Zav,g,_⟩
  exact g;exact absurd g.symm au
 refine cZ ?_;refine cd (ι:=Nat × List bG) (λe=>[(0,.slice P n c),(8,.slice y l.length B),(9,s.val),(106,.slice Q m R),(107,ad (m:Int)),(108,ad (e.1 :Int))])
  (λe=>ag d [] [s.aD,s.cw,aD 44 c1 y B e.2,x.aD]) (λe=>e.1<=m/\e.2.length=m/\ ∀p,l[0]? = some p->0<=p.row->p.row<(n:Int)->Good e.2 s.l.length) (λe=>m - e.1) ?_ ?_
 exact λZg O=>⟨(0,q),⟨b4 _,Zi,λp b j r=>Zj p b j aa⟩,(jF rfl rfl rfl rfl rfl rfl),O⟩
 rintro⟨f,t⟩ ⟨K,D,E⟩;dsimp only at K D E ⊢
 refine (aE) (λZ3=>?_) λZ3=>dO ?_;obtain⟨⟨I,T⟩,H⟩ : ∃p,l[f]? = some p:=⟨_,bD aa⟩;obtain⟨ZX,Zd,ZY,Ze⟩:=Zb.at_ H;obtain⟨W,L⟩:=Zq aa;refine aU ?_;refine bE (q:=f) eR rfl rfl rfl Zd rfl aa<|cE (vs:=[ad I,ad T]) fF rfl rfl rfl (λZz b f V K=>b.ch (Ze f V K) au)<|av ?_;intro Zaw Zax Zay;refine b6 ?_;refine bl 118 rfl (λY=>?_) λY=>?_;have Z4:=bg Y
 refine cn ?_;refine bE (q:=f) eR rfl rfl rfl L rfl aa<|ss (E:=c1) (e:=44) (A:=y) (c:=B) (L:=t) (g:=W) (q:=f) (a:=(⟨(s.l.length:Int),0⟩ :bG)) fF rfl rfl L aa oH<|aU ?_;exact bv (f+1,t.set f ⟨(s.l.length:Int),0⟩) ⟨aa,by dsimp only;rw[gx];exact D,λp b j r=>(hV f).elim (λC=>by subst C;rw[H] at b;cases b;exfalso;dsimp only at *;omega) ((E p b j r).set ·)⟩ bL b5 λ_ g=>g.aF ah;have Z4:=bm Y
 refine (aE) (λM=>aH ?_) λM=>aU ?_;refine bE (q:=f) eR rfl rfl rfl L rfl aa<|ss (E:=c1) (e:=44) (A:=y) (c:=B) (L:=t) (g:=W) (q:=f) (a:=(⟨(s.l.length:Int),0⟩ :bG)) fF rfl rfl L aa oH<|aU ?_;exact bv (f+1,t.set f ⟨(s.l.length:Int),0⟩) ⟨aa,by dsimp only;rw[gx];exact D,λp b j r=>(hV f).elim (λC=>by subst C;rw[H] at b;cases b;exfalso;dsimp only at *;omega) ((E p b j r).set ·)⟩ bL b5 λ_ g=>g.aF ah;exact bv (f+1,t) ⟨aa,D,E⟩ bL b5 λ_ g=>g.aF ah;exact λZaz Z5=>aX.cf (s,⟨y,B,t⟩) ⟨Zh,by dsimp only;omega,D,E⟩ (by rw[show l.length=t.length by omega])<|Z5.aF ah
def Y3(c l:Nat)(o:List bq)(p:dT d k f c l o)(I:c<=1000000000)(w: ∀x∈o,x.1.length<=1000000)(b:Int)(J:0<=b/\b<=1480000000000):ay 312 [.slice f c l,ad b] d
 (gu (λa:Nat=> .slice f a l) (λa=>a<=c/\(b<(c:Int)->b<(a:Int))) d):=by
 have K:=p.len
 have L:=p.za
 refine ba func312 ntmps312 ?_;refine aU ?_;refine cd (ι:=Nat) (λa=>[(0,.slice f a l),(1,ad b)]) (λ_=>ag d [] []) (λa=>a<=c/\(b<(c:Int)->b<(a:Int))) (λa=>a) ?_ ?_;exact λM y=>⟨c,⟨cC _,λj=>j⟩,(ig rfl rfl),y⟩
 rintro a ⟨r,s⟩;obtain⟨e,i,g,m,h,n⟩ : ∃(e:List aL)(i:Addr)(g:Option Addr)(m h:Nat),b+1<(a:Int)->f=some i/\d.cell? ((i.add<|(a - 1)*2).add 0)=some (.slice g m h)/\k i.block/\Rd bW d k g m h e/\m<=1000000:=by
  by_cases z:b+1<(a:Int)
  obtain⟨⟨e,N⟩,t⟩ : ∃v,o[a - 1]? = some v:=⟨_,bD aa⟩;have O:e.length<=1000000:=w _<|cR t
  obtain⟨i,g,m,h,A,B,C,u⟩:=p.at_ t;have P:e.length=m:=u.len
  exact⟨e,i,g,m,h,λ_=>⟨A,C 0 _ rfl,B,u,aa⟩⟩;exact⟨[],⟨0,0,none⟩,none,0,0,λj=>absurd j z⟩
 refine a6 ?_;refine bl 10 rfl (λq=>?_) λq=>?_;have D:=bg q
 refine a6 ?_;refine bE (q:=a - 1) dy rfl rfl rfl (n aa).1 aa aa<|ap ?_;refine bb (v:= .slice g m h) j3 rfl rfl (λQ E=>E.ch (n aa).2.1 au)<|av ?_;refine bd (λF G=>GS F k g m h e ((n aa).2.2.2.1.ext G.ext au) (n aa).2.2.2.2) ?_;refine (aE) (λH=>aY ?_) λH=>cn ?_;refine gp 0 (a - 1) dy rfl rfl (.inr ⟨rfl,rfl⟩) (.inl ⟨_,_,rfl,rfl,aa⟩) aa aa ?_;refine ap ?_;exact bv (a - 1) ⟨aa,λ_=>by omega⟩ aa (Sub.cons (by rw[lv,lv,x4];rfl)<|ut rfl) λ_ j=>j;exact eN a ⟨r,s⟩;have D:=bm q
 refine oI ?_;exact eN a ⟨r,s⟩
def ag.Y4{S:List Nat}(a:ag e S j M)(c:aP j Q K)(d:b∈aK Q)(f:b<e.heap.size):b∈S:=
 (a.perm c.perm).eU b (by rw[jb];exact p7 _ d) f
def Y5(e:dQ)(T:bc d (cP e))(E:dx e)(F:Nat->Prop)(q:Option Addr)(h r:Nat)(n:List bq)(G:dT d F q h r n)(s: ∀k,F k->k∉aK (cP e))(Zl:h<=1000000000)(U: ∀c∈n,c.1.length<=1000000):
 ay 313 [ptr e.g,.slice q h r] d (aX (λa:Int × dQ=>ad a.1) (cP e) (λa=>cP a.2) (λa=>a.2.g=e.g/\a.2.room=e.room/\dx a.2/\ ∀c∈a.2.rows,c∈n) d):=by
 have Zm:=G.len
 have V:=G.iz
 obtain⟨i,H,j,I,J,l⟩:=e;have K:=E.room
 have L:=E.gone
 dsimp only at K L
 refine bX func313 ntmps313 T ?_;refine Ow ?_;refine dh (H':=ag d (aK<|cP ⟨i,H,j,I,J,l⟩)<|cP ⟨i,⟨none,0,[]⟩,j,0,0,l⟩) (ft ?_) (Sub.refl _) λc f=>(((f.aF (l:=[dQ.aq ⟨i,⟨none,0,[]⟩,j,0,0,l⟩]) ah).e4 39 cx).pG).aF ah;refine cd (ι:=Nat × dQ) (λb=>[(0,ptr i),(5,.int .u64 l),(23,.slice q h r),(24,ad (h:Int)),(25,ad (b.1 :Int))]) (λb=>ag d (aK<|cP ⟨i,H,j,I,J,l⟩)<|cP b.2) (λb=>b.1<=h/\b.2.g=i/\b.2.room=j/\dx b.2/\ ∀c∈b.2.rows,c∈n) (λb=>h - b.1) ?_ ?_;exact λZn W=>⟨(0,⟨i,⟨none,0,[]⟩,j,0,0,l⟩),⟨b4 _,rfl,rfl,⟨by show ((0 :Nat):Int)<=j;omega,K,⟨oj 0,oj 0⟩,⟨oj 0,.inr rfl⟩,L⟩,λc f=>by simp[dQ.rows] at f⟩,(en rfl rfl rfl rfl rfl),W⟩
 rintro⟨a,⟨t,u,nS,w,x,y⟩⟩ ⟨X,M,N,o,z⟩;dsimp only at X M N o z ⊢
 subst M N;have Y:=o.gone
 dsimp only at Y
 refine (aE) (λZ=>?_) λZ=>b6 ?_;obtain⟨⟨A,O⟩,B⟩ : ∃v,n[a]? = some v:=⟨_,bD aa⟩;have Zo:A.length<=1000000:=U _<|cR B
 obtain⟨Zp,P,m,Q,Za,Zb,Zc,R⟩:=V.at_ B;have Zq:A.length=m:=R.len
 refine aH ?_;refine bE (q:=a) dy rfl rfl rfl Za rfl aa ?_;refine cE (vs:=[.slice P m Q,.bool O]) gG rfl rfl rfl (λZr Zd Ze Zf Zg=>Zd.ch (Zc Ze Zf Zg)<|by rw[block_add,block_add];exact s _ Zb.1) ?_;refine av ?_;intro Zs Zt Zu;refine aH ?_;refine bK (l0:=cP ⟨t,u,nS,w,x,y⟩) ah (hargs:=rfl) (λZh C=>Cs Zh ⟨t,u,nS,w,x,y⟩ (C.cb ah) o _ P m Q A O (R.ext C.ext λk p=>s k p.1) (λk p Zi=>s k p.1<|C.Y4 ah Zi p.2) aa) λc f=>aU ?_;refine bv (a+1,c.2) ⟨aa,f.1,f.2.1,f.2.2.1,λZj S=>?_⟩ bL (en rfl rfl rfl rfl rfl) λ_ D=>D.aF ah;rw[f.2.2.2.1] at S
 exact (Hp S).elim (z Zj ·) (λD=>by rw[D];exact cR B);refine hB rfl rfl rfl rfl<|dW rfl rfl underlying63 underlying3 rfl<|aI ?_;exact λZv Zk=>aX.cf (_,⟨t,u,nS,w,x,y⟩) ⟨rfl,rfl,o,z⟩ rfl<|Zk.aF ah
def Y6{r:dz}(k:r.aD.pred e){lo:Nat}(m:lo<=r.l.length)(n: (aZ<|(r.l.take lo).map b_.aQ).pred e):dT e (λb=>b∈aK [r.aD,aZ<|(r.l.take lo).map b_.aQ]) r.A lo r.c (b2<|r.l.take lo):=by
 have o:e.ownsRow 0 39 mS.ax r.val r.l.length (mS.all<|r.l.map b_.wZ):=by
  have:e.ownsRow 0 39 2 r.val r.l.length (cx.all r.l):=k
  rw[G7] at this;exact this
 obtain⟨z,B,p,q⟩:=Rd.ho (E:=mS) o au;injection p with s C t
 subst s t;have f:=q.cut (p:=0) (q:=lo) (b4 _) m
 rw[lv,lv,ol,<-List.map_take] at f
 rw[show (if r.c=0 then r.A else r.A.map λi=>i.add<|0*mS.ax)=r.A from x4 r.A r.c] at f
 refine⟨_,f.d8 λb a=>er.2 ⟨r.aD,by simp,kx.2 a⟩,by simp;rfl,λb i D a g=>?_⟩;rw[fw] at a g
 cases h: (r.l.take lo)[b]? with
 | none=>rw[h] at a;cases a
 | some d=>
  rw[h] at a g
  cases a;cases g
  have j:d.aQ∈(r.l.take lo).map b_.aQ:=ei.2 ⟨d,cR h,rfl⟩
  have u:=n d.aQ j
  obtain⟨E,F,v,w⟩:=w0 u;injection v with x G y
  subst x y;exact w.d8 λb a=>er.2 ⟨aZ<|(r.l.take lo).map b_.aQ,by simp,er.2 ⟨d.aQ,j,kx.2 a⟩⟩
def ag.Bh{w:World}(b:ag e D (aZ (K++Q)::j) w):ag e D (aZ K::aZ Q::j) w:=by
 have a:=b.mQ
 rw[ec] at a
 have c:=a.close'
 have d:ag e D (Q++(aZ K::j)) w:=c.perm List.perm_middle.symm
 exact d.close'.perm<|List.Perm.swap _ _ _
def MH : ((⟨h,0,none⟩ :Addr).add<|1*2).add (J*2)=(⟨h,0,none⟩ :Addr).add ((J+1)*c1.ax):=by
 show _=(⟨h,0,none⟩ :Addr).add ((J+1)*2)
 rw[Addr.add_lit,Addr.add_lit,Addr.add_lit];congr 1
 omega
def MI{cols:Int}(b:2<=cols/\cols<=1000): ((pH cols).1.length:Int)=cols/\hx (pH cols).1:=by
 unfold pH mX;refine⟨by rw[hy];omega,λc a=>?_⟩;rw[(uk.1 a).2];exact zZ CT
abbrev yr(a:e7):Value:= .slice (if a.c=1 then a.A else a.A.map λb=>b.add<|1*2) (a.l.length - 1)<|a.c - 1
structure Ff (p:bQ) (rows al:Int) (m:Nat) (i:bG × e7 × bQ):Prop where
 g:i.2.2.g=p.g
 r:dx i.2.2.r
 room:i.2.2.r.room=p.r.room
 P:dF i.2.2.abs
 high: (i.2.2.s.l.length:Int)=rows
 wd:i.2.2.al=al
 bu:i.2.2.bu.l.length<=1
 y:0<=i.1.row/\i.1.row<rows
 x:0<=i.1.dL/\i.1.dL<=al
 pl:i.2.1.l.length=m+1
 G:ea i.2.2.abs
