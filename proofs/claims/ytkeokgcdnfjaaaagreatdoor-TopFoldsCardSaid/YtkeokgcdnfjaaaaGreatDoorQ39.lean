/- part 39 of the proof -/
import Derived.Test.YtkeokgcdnfjaaaaGreatDoorQ38
namespace Go.Proofs.YtkeokgcdnfjaaaaGreatDoor.Mq
open Go Go.RowKit Go.Proofs Tryz
def vZ (s:eW) (c:lY):eW:=if c.told=false then ry s ⟨c.gV,c.j4,c.jC⟩ else if c.kind=7 then s else gj s ⟨c.kind,c.code,c.has,c.text⟩ ⟨c.row,c.dm⟩
def rG (s:eW) (l:List lY):eW:=l.foldl vZ s
theorem XR (s:eW) {l:List lY} {i:Nat} {c:lY} (h:l[i]? = some c):rG s (l.take (i+1))=vZ (rG s (l.take i)) c:=by
 unfold rG;rw[fU,h,List.foldl_append];rfl
theorem fF.mono {s:cL} {N M:Int} (h:fF s N) (a:N≤M):fF s M:=⟨{ h.wf with ids:=⟨h.wf.ids.1,Int.le_trans h.wf.ids.2 a⟩ },h.br⟩
structure XS (s:bT) (m:Nat) (N:Int) (i:bT):Prop where
 g:i.g=s.g
 ok:cD i m (N+m)
 st:i.st.abs=rG s.st.abs (im s.T.abs).aF
 T:i.T.abs= { im s.T.abs with aF:=[] }
 p:i.p=s.p
 es:i.es=s.es
 room:i.ap.r.room=s.ap.r.room
theorem cD.C5 {s:bT} {m:Nat} {N:Int} (h:cD s m N) {R:Int} (a:s.ap.r.room=R):cj s.b7 R m s.T:=a▸h.T
theorem Kw [Inhabited et] (w:World) (s:bT) {m:Nat} {N:Int} (o:cD s m N) (R:bb w [ch s]) (S:m≤900000000000) (Ze:N≤900000000000000):Calls prog 39 [ptr s.g].toArray w (aP (λ_:bT=> .tuple #[]) [ch s] (λi=>[ch i]) (XS s m N) w):=by
 obtain⟨g,top,dk,b7,p,T,st,cW,dp,es,ck⟩:=s;have K:=o.C5 rfl
 have L:=o.st
 have M:=o.cW
 dsimp only at K L M
 refine calls (n:=58) func39 rfl ntmps39 rfl ?_;refine cG (H':=af w (aB [ch ⟨g,top,dk,b7,p,T,st,cW,dp,es,ck⟩]) (cQ ⟨g,top,dk,b7,p,T,st,cW,dp,es,ck⟩)) ?_ (Sub.refl _) (λx F=>by have h:=(R.start x F).open (l:=cQ ⟨g,top,dk,b7,p,T,st,cW,dp,es,ck⟩) bi;rwa [fJ] at h);refine al ?_;refine k5 (lc:=fe p b7 p.g T) cv<| aZ (l0:=bx b7 p.g d_ T) ae rfl Mo rfl (λb c=>Vo b b7 p.g d_ T (c.bp ae) K S) (λ⟨bu,z⟩ U=>?_)
 refine aS ?_;refine cG (H':=af w (aB [ch ⟨g,top,dk,b7,p,T,st,cW,dp,es,ck⟩]) (z.au::cQ ⟨g,top,dk,b7,p,bu,st,cW,dp,es,ck⟩)) ?_ (Sub.refl _) (λx F=>(F.close (l:=fe p b7 p.g bu) ae).aw ae);obtain⟨a,O,P,V,Q⟩:=U;dsimp only at a O P V Q
 refine aq ?_;refine b3 (ι:=Nat × cL × ho) (λt=>[(0,ptr g),(8,z.val),(9,.int .i64 (z.l.length:Int)),(10,.int .i64 (t.1 :Int))]) (λt=>af w (aB [ch ⟨g,top,dk,b7,p,T,st,cW,dp,es,ck⟩]) (z.au::cQ ⟨g,top,dk,b7,p,bu,t.2.1,t.2.2,dp,es,ck⟩)) (λt=>t.1≤z.l.length∧t.2.1.g=st.g∧t.2.2.g=cW.g∧fF t.2.1 (N+t.1)∧rv t.2.2∧t.2.1.abs=rG st.abs (z.l.take t.1)) (λt=>z.l.length - t.1) ?_ ?_;exact λw' W=>⟨(0,st,cW),⟨bN _,rfl,rfl,by simpa using L,M,rfl⟩,(cu rfl rfl rfl rfl),W⟩
 rintro⟨i,s1,dN⟩ ⟨hi,B,C,y,A,G⟩;dsimp only at hi B C y A G ⊢
 refine al ?_;refine aj (λX=>?_) (λX=>?_);obtain⟨v,H⟩ : ∃v,z.l[i]? = some v:=⟨_,bE aa⟩;have Y:=Q v (c8 H)
 have D:=XR st.abs H
 rw[←G] at D
 refine al ?_;refine iL (E:=lm) aQ qN rfl rfl rfl a7 aa (λZf Z=>?_);refine cw (vs:=v.enc) DS rfl rfl rfl (λZg Za j u Zb=>Za.gx (E:=lm) aQ Z H j u Zb) ?_;refine aq ?_;intro Zh Zi Zj;refine eX (vs:=v.enc) DS rfl rfl (bn.whole cz a7) rfl (fY rfl rfl rfl rfl rfl rfl rfl rfl rfl rfl) (by exact dT rfl) ?_;refine bo ?_;refine b2 rfl (λf=>?_) (λf=>?_);have Zc:=f
 simp only[bU] at f
 refine aq ?_;refine bG [0,1,2,3,4,5] 1 [[(6,true,[])]] ?_;refine aK ?_;refine cI (λb c=>Calls.mono (Wz b s1 c.jq y ⟨v.gV,v.j4,v.jC⟩) (λe w' h=>aP.star h)) (λq d=>?_);refine aS ?_;refine bG [0,1,2,3,4,5] 1 [[(6,true,[])]] ?_;refine aK ?_;refine cI (λb c=>Calls.mono (VS b dN c.jq A ⟨v.gV,v.j4,v.jC⟩) (λe w' h=>aP.star h)) (λr k=>?_);refine aR ?_;exact bg (i+1,q,r) ⟨aa,d.g.trans B,k.g.trans C,d.ok.mono bm,k.ok,by dsimp only;rw[D,d.abs,vZ,ax f]⟩ bm bO (λ_ h=>by have I:=d.g;have J:=k.g;simp only[cQ,bT.an,tL,I,J];exact h.aw ae);have Zc:=f
 simp only[bU] at f
 refine aR ?_;refine aj (λaH=>?_) (λaH=>?_);refine bG [0,1,2,3,4,5,6] 1 [[(7,true,[])]] ?_;refine aJ ?_;refine cI (λb c=>Calls.mono (VE b dN c.jq A ⟨v.row,v.dm⟩) (λe w' h=>aP.star h)) (λr k=>?_);refine aR ?_;exact bg (i+1,s1,r) ⟨aa,B,k.g.trans C,y.mono bm,k.ok,by dsimp only;rw[D,vZ,ag (by rw[f];decide),ax aH]⟩ bm bO (λ_ h=>by have J:=k.g;simp only[cQ,bT.an,tL,J];exact h.aw ae);refine bG [0,1,2,3,4,5,6,7,8,9] 1 [[(10,true,[])]] ?_;refine bw ?_;refine aZ (l0:=[aT (cT s1)]) (v:=λ_:cL=> .tuple #[]) (l':=λq=>[aT (cT q)]) (ok:=jp s1 (N+i) ⟨v.kind,v.code,v.has,v.text⟩ ⟨v.row,v.dm⟩) ae rfl Mp rfl (λb c=>Calls.mono (Wm b s1 (c.bp ae).jq y aa ⟨v.kind,v.code,v.has,v.text⟩ Y ⟨v.row,v.dm⟩) (λe w' h=>aP.star h)) (λq d=>?_);refine aR ?_;exact bg (i+1,q,dN) ⟨aa,d.g.trans B,C,d.ok.mono bm,A,by dsimp only;rw[D,vZ,ag (by rw[f];decide),ag aH,d.abs]⟩ bm bO (λ_ h=>by have I:=d.g;simp only[cQ,bT.an,tL,I];exact h.aw ae);refine ay ?_;intro Zk Zd;refine aP.bP ⟨g,top,dk,b7,p,bu,s1,dN,dp,es,ck⟩ ⟨rfl,⟨o.par,?_,y.mono aa,A,o.mp,o.top⟩,?_,P,rfl,rfl,a.room⟩ rfl ((Zd.close (l:=cQ ⟨g,top,dk,b7,p,bu,s1,dN,dp,es,ck⟩) ae).aw ae);exact⟨a.am,a.bj,rfl,a.bL,a.cg,a.be,a.buf,a.aF,a.md⟩;show s1.abs=_;rw[G,eu aa,O]
structure Kx (s:bT) (m:Nat) (N:Int) (L:List UInt8) (i:bT):Prop where
 g:i.g=s.g
 ok:cD i (m+8000000*L.length) (N+(m+8000000*L.length:Nat))
 ex: ∃bu,vz s.p s.T.abs L i.p bu∧i.st.abs=rG s.st.abs (im bu).aF∧i.T.abs= { im bu with aF:=[] }
 most:i.p.most=s.p.most
 es:i.es=s.es
 room:i.ap.r.room=s.ap.r.room
theorem Ky [Inhabited et] (w:World) (s:bT) {m:Nat} {N:Int} (b:cD s m N) (C:bb w [ch s]) (D:m≤100000000000) (M:N≤800000000000000) (A:Option Addr) (n c:Nat) (L:List UInt8) (j:Rd cy w (λk=>k∉aB [ch s]) A n c L) (E:n≤1000):Calls prog 18 [ptr s.g,.slice A n c].toArray w (aP (λ_:bT=> .tuple #[]) [ch s] (λi=>[ch i]) (Kx s m N L) w):=by
 have F:=j.len
 obtain⟨g,top,dk,b7,p,T,st,cW,dp,es,ck⟩:=s;have o:=b.C5 rfl
 have r:=b.st
 have t:=b.cW
 dsimp only at o r t
 have G: ∀k,k∉aB [ch ⟨g,top,dk,b7,p,T,st,cW,dp,es,ck⟩]→k∉aB (fe p b7 p.g T):=(λk H h=>H (by
  rw[show aB [ch ⟨g,top,dk,b7,p,T,st,cW,dp,es,ck⟩]=aB (cQ ⟨g,top,dk,b7,p,T,st,cW,dp,es,ck⟩) by simp[aB,aT]];exact e4.2 ⟨aT (fe p b7 p.g T),by simp,h⟩))
 refine calls (n:=14) func18 rfl ntmps18 rfl ?_;refine cG (H':=af w (aB [ch ⟨g,top,dk,b7,p,T,st,cW,dp,es,ck⟩]) (cQ ⟨g,top,dk,b7,p,T,st,cW,dp,es,ck⟩)) ?_ (Sub.refl _) (λx e=>by have h:=(C.start x e).open (l:=cQ ⟨g,top,dk,b7,p,T,st,cW,dp,es,ck⟩) bi;rwa [fJ] at h);refine b5 ?_;refine k5 (lc:=fe p b7 p.g T) cv<| aZ (l0:=fe p b7 p.g T) ae rfl L_ rfl (λf d=>Vx f b7 p T (d.bp ae) b.par o A n c L ((j.ext d.ext (λ_ h=>h)).dC G) E D) (λ⟨q,bu⟩ I=>?_)
 refine ar ?_;obtain⟨u,v,y,a,z⟩:=I;dsimp only at u v y a z
 refine cG (H':=af w (aB [ch ⟨g,top,dk,b7,p,T,st,cW,dp,es,ck⟩]) [ch ⟨g,top,dk,b7,q,bu,st,cW,dp,es,ck⟩]) ?_ (Sub.refl _) (λx e=>by have B:=e.close (l:=fe q b7 p.g bu) ae;rw[show fe q b7 p.g bu=fe q b7 q.g bu by rw[u]] at B;exact (B.close (l:=cQ ⟨g,top,dk,b7,q,bu,st,cW,dp,es,ck⟩) ae).aw ae);have J:cD ⟨g,top,dk,b7,q,bu,st,cW,dp,es,ck⟩ (m+8000000*n) N:=⟨v,⟨a.am,a.bj,rfl,a.bL,a.cg,a.be,a.buf,a.aF,a.md⟩,r,t,b.mp,b.top⟩
 refine ar ?_;refine aZ (l0:=[ch ⟨g,top,dk,b7,q,bu,st,cW,dp,es,ck⟩]) ae rfl D2 rfl (λf d=>Kw f _ J (d.bp ae) aa aa) (λi hi=>?_);refine ar ?_;intro O K;refine aN i ⟨hi.g,?_,⟨bu.abs,hi.p.symm▸z,hi.st,hi.T⟩,by rw[hi.p];exact y,hi.es,?_⟩ K;rw[F];exact hi.ok
 rw[hi.room];exact a.room
abbrev gE (l:List bh):Prop:= ∀c∈l,c.more.length≤32
def kf (cols:Nat) (l:List bR):Prop:= ∀g∈l,g.cells.length=cols∧gE g.cells
theorem kf.snoc {cols:Nat} {l:List bR} {g:bR} (h:kf cols l) (b:g.cells.length=cols∧gE g.cells):kf cols (l++[g]):=λx a=>by
 rcases cX.1 a with a | a
 exact h x a;rw[eL] at a;subst a;exact b
theorem Kz {l:List bh} (h:gE l):gE (de l):=xk (P:=λc=>c.more.length≤32) (λ_ _=>bN _) h
theorem XT {l:List bh} (h:gE l):gE (uD l):=Kz (λc a=>by
 obtain⟨d,ak,rfl⟩:=dF.1 a;unfold nn;split
 exact bN _;exact h d ak)
def nZ (left:List bh) (cols:Nat):List bh:=left.take (eH left cols)++List.replicate (cols - eH left cols) gP
theorem XU (left:List bh) (cols:Nat): (nZ left cols).length=cols:=by
 have:=Ao left cols
 unfold nZ;rw[b0,dn,g_];omega
theorem XV {left:List bh} (h:gE left) (cols:Nat):gE (nZ left cols):=λc a=>by
 rcases cX.1 a with a | a
 exact h c (iu a);rw[(ua.1 a).2];exact bN _
theorem XW {l:List bh} (h:gE l) (i:Nat):gE (l.set i qZ):=λc a=>by
 rcases rP a with a | rfl
 exact h c a;exact bN _
theorem XX {left:List bh} {cols:Nat} (h:eH left cols<cols): (bJ.all (nZ left cols)).set (eH left cols*8+2) (.int .i64 3)=bJ.all ((nZ left cols).set (eH left cols) qZ):=by
 refine bJ.pr (j:=2) (a':=qZ) (v:= .int .i64 3) (a:=gP) ?_ a1 rfl;have:=Ao left cols
 unfold nZ;rw[kS (by rw[dn];omega),dn,rN,ax aa]
structure XY where
 z:db
 A:Option Addr
 n:Nat
 c:Nat
 left:List bh
theorem XZ (w:World) (F:Nat→Prop) (A:Option Addr) (n c:Nat) (l:List bh) (cols:Nat) (C:Rd bJ w F A n c l) (Q:n≤1000000) (R:2≤cols) (S:cols≤1000) (T:gE l):
 Calls prog 267 [.slice A n c,.int .i64 (cols:Int)].toArray w (aP (λz:db=>z.val) [] (λz=>[z.au,z.cc]) (λz=>kf cols z.l∧1≤z.l.length∧z.l.length≤l.length+1) w):=by
 have Zk:=C.len
 refine aW func267 ntmps267 ?_;refine aJ ?_;refine ao rfl EJ rfl (λw' _=>uC w' _) ?_;refine ah ?_;refine fL rfl (by simp;omega) ?_;refine ay ?_;refine zh rfl Oc rfl (λw' e=>Pk w' F A n c l (C.ext e.ext av) Q) (λZl f U V W Zm Zn Y D=>?_);refine aJ ?_;have G:=Pj l
 have Z:=XT T
 have Zo:=D.len
 refine cG (H':=af f [] [db.au ⟨none,0,[]⟩,db.cc ⟨none,0,[]⟩]) ?_ (Sub.refl _) (λx r=>((r.eO 157 cf).tg).aw ae);refine aq ?_;refine b3 (ι:=XY) (λt=>[(1,.int .i64 (cols:Int)),(5,.slice t.A t.n t.c),(6,t.z.val)]) (λt=>af f [] [t.z.au,t.z.cc]) (λt=>kf cols t.z.l∧Rd bJ f (λ_=>True) t.A t.n t.c t.left∧gE t.left∧(t.z.l.length=0→t.left.length≤l.length)∧t.z.l.length+t.left.length≤l.length+1) (λt=>if t.z.l.length=0 then l.length+2 else t.left.length) ?_ ?_;exact λw' e=>⟨⟨⟨none,0,[]⟩,U,V,W,uD l⟩,⟨λ_ h=>by simp at h,D.dC (λ_ _=>aU),Z,λ_=>by rw[G];exact cd _,by show 0+_≤_;rw[G];omega⟩,(dZ rfl rfl rfl),e⟩
 rintro⟨z,i,d,lc,left⟩ ⟨s,j,u,Za,Zb⟩;dsimp only at s j u Za Zb ⊢
 have Zp:=j.len
 have Zq:=j.cap
 have Zr:=Ao left cols
 have H:left≠[]→1≤eH left cols:=λh=>Pl left cols R h
 refine ar ?_;refine hC (λb:Bool=>[(1,.int .i64 (cols:Int)),(5,.slice i d lc),(6,z.val),(21,.bool b)]) (λ_=>af f [] [z.au,z.cc]) (λb=>b=true↔(z.l.length=0∨0<d)) ?_ ?_;refine ay ?_;refine aV 17 rfl (λv=>?_) (λv=>?_);have Zc:=aY v
 refine ay ?_;refine dr _ ?_ (cu rfl rfl rfl rfl) (λ_ h=>h);exact⟨λ_=> .inl aa,λ_=>rfl⟩;have Zc:=a8 v
 refine aK ?_;refine dr _ ?_ (cu rfl rfl rfl rfl) (λ_ h=>h)
 (simp only[e3];omega)
 rintro b I;refine aq ?_;refine b2 rfl (λy=>?_) (λy=>?_);have Zs:=I.1 y
 have m:=XU left cols
 have J:=XV u cols
 have K:=Pm left cols
 have L:=j.cut (p:=0) (q:=eH left cols) aa aa
 have M:=j.cut (p:=eH left cols) (q:=d) aa (cd _)
 rw[n1] at L
 rw[eu (show left.length≤d by omega)] at M
 have Zd:z.l.length+1+(left.length - eH left cols)≤l.length+1:=by
  by_cases k:left=[]
  subst k;simp only[jL] at *;omega
  have:=H k;omega
 have Ze:left.length - eH left cols<(if z.l.length=0 then l.length+2 else left.length):=by
  by_cases k:left=[]
  subst k;simp only[jL] at *;split <;> omega
  have:=H k;split <;> omega
 refine aC ?_;refine ao rfl Od rfl (λw' e=>Am w' _ i d lc left cols (j.ext e.ext av) aa aa S) ?_;refine al ?_;refine r6 cols dv rfl rfl rfl rfl (by simp only[maxLen];omega) aa (λg Zt Zu=>?_);refine aS ?_;rw[FN];refine aS ?_;refine fh 0 (eH left cols) dv rfl rfl (.inr ⟨rfl,rfl⟩) (.inl ⟨_,_,rfl,rfl,rfl⟩) aa aa ?_;refine DE (E:=bJ) (src:=left.take (eH left cols)) dv rfl rfl rfl cz (λw' e=>L.ext e.ext av) aa ?_;refine aS ?_;rw[kh,Pn,List.drop_replicate,←bJ.all_append];refine cG (H':=af f [] [bR.aF ⟨some ⟨g,0,none⟩,cols,false,nZ left cols⟩,z.au,z.cc]) ?_ (Sub.refl _) (λx r=>by simp only[bR.aF,dL,bR.val,m];exact r);refine ah ?_;refine fh (eH left cols) d dv rfl rfl (.inl ⟨_,_,rfl,rfl,rfl⟩) (.inr ⟨rfl,rfl⟩) aa aa ?_;refine aS ?_;refine hC (λb:Bool=>[(1,.int .i64 (cols:Int)),(5,.slice (if lc=eH left cols then i else i.map (λx=>x.add (eH left cols*8))) (d - eH left cols) (lc - eH left cols)),(6,z.val),(7,.int .i64 (eH left cols:Int)),(8,.slice (some ⟨g,0,none⟩) cols cols),(43,.bool b)]) (λ_=>af f [] [bR.aF ⟨some ⟨g,0,none⟩,cols,false,nZ left cols⟩,z.au,z.cc]) (λb=>b=true→eH left cols<cols) ?_ ?_;refine al ?_;refine aV 39 rfl (λaH=>?_) (λaH=>?_);have Zf:=aY aH
 refine aK ?_;refine dr _ ?_ (hg rfl rfl rfl rfl rfl rfl) (λ_ h=>h);exact λ_=>by omega
 have Zf:=a8 aH
 refine ay ?_;refine dr _ ?_ (hg rfl rfl rfl rfl rfl rfl) (λ_ h=>h);exact λh=>Bool.noConfusion h
 rintro Zv B;refine aq ?_;refine hC (λ_:List bh=>[(1,.int .i64 (cols:Int)),(5,.slice (if lc=eH left cols then i else i.map (λx=>x.add (eH left cols*8))) (d - eH left cols) (lc - eH left cols)),(6,z.val),(8,.slice (some ⟨g,0,none⟩) cols cols)]) (λX=>af f [] [bR.aF ⟨some ⟨g,0,none⟩,cols,false,X⟩,z.au,z.cc]) (λX=>X.length=cols∧gE X) ?_ ?_;refine b2 rfl (λZg=>?_) (λZg=>?_);refine ah ?_;refine bD (q:=eH left cols) dv rfl rfl rfl rfl rfl (by have:=B bz;omega) ?_;refine aq ?_;refine kW (o:=eH left cols*8+2) bM rfl rfl cz (by simp[Addr.add_lit]) rfl (by have:=B bz;rw[bJ.dH,m];show _<_*8;omega) ?_;refine aq ?_;exact dr ((nZ left cols).set (eH left cols) qZ) ⟨by rw[fT,m],XW J _⟩ (cu rfl rfl rfl rfl) (λ_ h=>by rw[XX (B bz)] at h;simp only[bR.aF,dL,bR.val,fT] at h ⊢;exact h);refine aq ?_;exact dr (nZ left cols) ⟨m,J⟩ bO (λ_ h=>h);rintro X ⟨N,Zh⟩;refine aK ?_;refine dx (E:=cf) (a:=⟨some ⟨g,0,none⟩,cols,decide ((z.l.length:Int)>0),X⟩) dI rfl rfl rfl rfl (by show [Value.slice _ cols cols,_]=[Value.slice _ X.length cols,_];rw[N]) (λZw _ _=>?_);refine er (E:=cf) dI rfl rfl rfl bi (λ_ _=>eo) b4 b4 (λO P=>?_);refine ah ?_;refine bg ⟨⟨O,P,z.l++[⟨some ⟨g,0,none⟩,cols,decide ((z.l.length:Int)>0),X⟩]⟩,_,_,_,An left cols⟩ ⟨s.snoc ⟨N,Zh⟩,M,λc Zi=>u c (lC Zi),λh=>by simp at h,?_⟩ ?_ (dZ rfl rfl rfl) (λ_ h=>(af.x3 (l:=z.l) (g:=⟨some ⟨g,0,none⟩,cols,decide ((z.l.length:Int)>0),X⟩) (h.aw (l:=[z.cc,bR.aF ⟨some ⟨g,0,none⟩,cols,decide ((z.l.length:Int)>0),X⟩,au 157 cf O P (z.l++[⟨some ⟨g,0,none⟩,cols,decide ((z.l.length:Int)>0),X⟩])]) ae)).aw ae);dsimp only;rw[b0,iS,K];exact Zd
 dsimp only;rw[b0,iS,ag aa,K];exact Ze
 refine bH ?_;intro Zx Zj;exact aP.bP z ⟨s,by have: ¬(z.l.length=0∨0<d):=λh=>Bool.noConfusion ((I.2 h).symm.trans y);omega,aa⟩ rfl (Zj.y2 Y.ext av)
end Go.Proofs.YtkeokgcdnfjaaaaGreatDoor.Mq
namespace Go.Proofs.YtkeokgcdnfjaaaaGreatDoor.Mq
open Go Go.RowKit Go.Proofs
structure KA where
 A:Option Addr
 n:Nat
 c:Nat
 lo:Nat
 hi:Nat
abbrev qp {α:Type} (E:bA α) (L:List α) (x:KA):Chunk:=rg x.lo x.hi (λw=>Rd E w (λk=>x.lo≤k∧k<x.hi) x.A x.n x.c L) (λ_ _ b h=>Rd.loc h (λk a=>b k a.1 a.2))
theorem ia.fk {α:Type} {E:bA α} (f:0<E.sz) {w w':World} {L:List α} {e:Ending} (h:ia E w L e w'):aP (λx:KA=> .slice x.A x.n x.c) [] (λx=>[qp E L x]) (λx=>x.n=L.length) w e w':=by
 obtain⟨A,n,c,rfl,g,a⟩:=h;refine⟨⟨A,n,c,w.heap.size,w'.heap.size⟩,a.len.symm,rfl,g,?_,?_,?_⟩;simp only[aB,n2,rK,fJ];exact xX _ _ _ _;intro c b;rw[eL] at b
 subst b;exact⟨λ_=>cd _,a.hA f⟩;intro k d i;simp only[aB,n2,rK,fJ] at d
 have:w.heap.size≤k:=(n8.1 d).1
 omega
theorem tN {α:Type} {E:bA α} {P:Program} {n:Nat} {ops:Array Oper} {Q:cl} {rest:List Oper} {l:Fr} {ty:TypeId} {pos:String} {a6:Array Edge} {b:World} {S:List Nat} {cs cs':List Chunk} {x y:Operand} {t e g q c:Nat} {z:List Value} {A:Option Addr} {L:List α} {a:α}
 (i:cB P t E.sz z) (j:a_ l x=some (.pointer (some ((⟨g,0,none⟩ :Addr).add (q*E.sz))))) (k:a_ l y=some (.agg (E.enc a).toArray)) (o:A=some ⟨g,0,none⟩) (d:q<L.length) (p:bn cs (au e E A c L) (au e E A c (L.set q a)) cs')
 (h:az P n ops Q rest l (af b S cs')):az P n ops Q (⟨none,.store t x y,ty,pos,a6,none⟩::rest) l (af b S cs):=by
 subst o;refine mu (e:=e) (sz:=E.sz) (m:=L.length) (c:=c) (xs:=E.all L) i j k ?_ (by rw[Addr.add_lit,dG]) (E.len a) (E.iW a) ?_ h;rw[bA.iY E a d];have f:bn cs (own e E.sz (.slice (some ⟨g,0,none⟩) L.length c) L.length (E.all L)) (own e E.sz (.slice (some ⟨g,0,none⟩) (L.set q a).length c) (L.set q a).length (E.all (L.set q a))) cs':=p
 rw[fT] at f
 exact f;rw[E.len,E.dH];have:=kT E.sz d
 rw[ob] at this
 exact this
theorem X0 (rows:List bQ) (off:Int) (f:1≤rows.length):0≤(jP rows off).row∧(jP rows off).row<(rows.length:Int)∧0≤(jP rows off).dm:=by
 have d:=FY rows (max 0 off)
 obtain⟨g,b,h⟩:=d;unfold jP;rw[ag aa];split
 rename_i e;have i:=xd (rows:=rows) (j:=rows.length - 1) (k:=rows.length) aa
 have a:=b (rows.length - 1) aa
 rw[show rows.length - 1+1=rows.length by omega] at a
 dsimp only;omega
 rename_i e;dsimp only;refine⟨aa,aa,?_⟩;rcases gF (oC rows (max 0 off)) with c | c
 rw[c];simp[fj,cellsOf];omega
 have a:=b (oC rows (max 0 off) - 1) aa
 rw[show oC rows (max 0 off) - 1+1=oC rows (max 0 off) by omega] at a
 omega
theorem X1 {rows:List bQ} (h: ∀r∈rows,gE r.1):gE (qY rows):=λc a=>by
 unfold qY Aj at a
 refine Kz (λd ak=>?_) c (iu a);obtain⟨ak,_⟩:=List.mem_filter.1 ak;obtain⟨r,b,ak⟩:=List.mem_flatMap.1 ak;exact h r b d ak
abbrev Good (q:List bl) (r:Nat):Prop:= ∃p,q[0]? = some p∧0≤p.row∧p.row<(r:Int)∧0≤p.dm
theorem Good.mono {q:List bl} {r s:Nat} (h:Good q r) (d:r≤s):Good q s:=by
 obtain⟨p,a,b,e,c⟩:=h;exact⟨p,a,b,aa,c⟩
theorem Good.set {q:List bl} {r j:Nat} {p:bl} (h:Good q r) (c:1≤j):Good (q.set j p) r:=by
 obtain⟨b8,a,b⟩:=h;exact⟨b8,by rw[jr aa];exact a,b⟩
end Go.Proofs.YtkeokgcdnfjaaaaGreatDoor.Mq
namespace Go.Proofs.YtkeokgcdnfjaaaaGreatDoor.Mq
open Go Go.RowKit Go.Proofs Tryz
structure KB where
 i:Nat
 z:db
 q:List bl
structure X2 (w:World) (rows:List bQ) (l:List bl) (n m cols:Nat) (L:List (Int × Int)) (t:KB):Prop where
 i:t.i≤L.length
 wide:kf cols t.z.l
 len:t.z.l.length≤t.i*100001
 q:t.q.length=m
 aF: ∃a:Nat,sw rows n a (L.drop t.i)∧a≤n∧ ∀p,l[0]? = some p→0≤p.row→p.row<(a:Int)→Good t.q t.z.l.length
theorem kf.ow {cols:Nat} {l r:List bR} (h:kf cols l) (k:kf cols r):kf cols (l++r):=λx a=>by
 rcases cX.1 a with a | a
 exact h x a;exact k x a
theorem KC {q:List bl} {j r s:Nat} {p:bl} (a:j<q.length) (b:j=0) (h:0≤p.row∧p.row<(s:Int)∧0≤p.dm):Good (q.set j ⟨p.row+(r:Int),p.dm⟩) (r+s):=by
 subst b;exact⟨_,List.getElem?_set_self a,by dsimp only;omega,by dsimp only;omega,h.2.2⟩
theorem C6 {cols:Nat}: ∀{l:List bR},kf cols l→d4 (bW l)=l.length*cols
 | [],_=>by simp[d4]
 | g::l,h=>by
  have c:=(h g av).1
  have a:=C6 (l:=l) (λx b=>h x (by simp[b]))
  simp only[d4,lB,List.sum_cons,eK] at a ⊢
  rw[a,ob];show g.cells.length+_=_
  omega
theorem KD {rows:List bQ} (p:bl) (h:d4 rows≤100000): -9223372036854775808≤jw rows p∧jw rows p≤9223372036854775807:=by
 have:=Pz rows p
 omega
theorem X3 (w:World) (F G:Nat→Prop) (A X:Option Addr) (n c m d:Nat) (rows:List bQ) (l:List bl) (cols:Nat) (Zb:ep w F A n c rows) (ai:Rd cq w G X m d l) (Z7:n≤1000) (Z8:d4 rows≤100000) (Z9:m≤1000000) (Zy:2≤cols) (Zz:cols≤1000) (ZA: (d4 rows+1)*cols≤1000000) (ZB: ∀r∈rows,gE r.1):
 Calls prog 188 [.slice A n c,.int .i64 (cols:Int),.slice X m d].toArray w (aP (λt:db × eb=> .tuple #[t.1.val,t.2.val]) [] (λt=>[t.1.au,t.1.cc,t.2.au]) (λt=>kf cols t.1.l∧t.1.l.length≤200000000∧t.2.l.length=m∧ ∀p,l[0]? = some p→0≤p.row→p.row<(n:Int)→Good t.2.l t.1.l.length) w):=by
 have Zaa:=Zb.len
 have ZC:=ai.len
 refine aW func188 ntmps188 ?_;refine aJ ?_;refine pq 40 2 ?_;refine pX (E:=cq) (src:=l) (F:=G) (m:=0) (xs:=[]) l.length aa dQ rfl rfl rfl (λ_=>by exact cz) (λw' W=>ai.ext W.ext av) (by simp only[maxLen];omega) aa (λI J=>?_);refine aC ?_;refine iX (e:=40) (sz:=2) (v:= .slice I l.length J) aQ (λdE c9 ZD _ _ _ Zn=>?_);cases ZD
 refine ao rfl EJ rfl (λw' _=>uC w' _) ?_;refine ah ?_;refine fL rfl (by simp;omega) ?_;refine bo ?_;refine aZ (l0:=[]) aA.nil rfl El rfl (λH D=>Ka H _ A n c rows (Zb.ext D.ext av) aa) (λP Zo=>?_);refine aS ?_;refine cG (H':=af w [] [db.au ⟨none,0,[]⟩,db.cc ⟨none,0,[]⟩,au 40 cq I J l,P.au]) ?_ (Sub.refl _) (λx ZE=>((ZE.eO 157 cf).tg).aw ae);have ZF:=Ap rows n
 rw[←Zo] at ZF
 have Zp:=Aq rows n
 rw[←Zo] at Zp
 refine aq ?_;refine b3 (ι:=KB) (λt=>[(0,.slice A n c),(1,.int .i64 (cols:Int)),(2,.slice X m d),(8,.slice I l.length J),(9,t.z.val),(29,P.val),(30,.int .i64 (P.l.length:Int)),(31,.int .i64 (t.i:Int))]) (λt=>af w [] [t.z.au,t.z.cc,au 40 cq I J t.q,P.au]) (X2 w rows l n m cols P.l) (λt=>P.l.length - t.i) ?_ ?_;exact λw' W=>⟨⟨0,⟨none,0,[]⟩,l⟩,⟨bN _,λ_ h=>by simp at h,bN _,ZC,0,Zp,bN _,λp _ b k=>by omega⟩,(w3 rfl rfl rfl rfl rfl rfl rfl rfl),W⟩
 rintro⟨i,z,q⟩ ⟨hi,Zf,ZG,Zg,a,Z,Zab,Zh⟩;dsimp only at hi Zf ZG Zg Z Zh ⊢
 refine al ?_;refine aj (λZH=>?_) (λZH=>?_);obtain⟨ZI,ZJ⟩ : ∃v,P.l[i]? = some v:=⟨_,bE aa⟩;have ZK:P.l.drop i=ZI::P.l.drop (i+1):=by
  obtain⟨b,k⟩:=cU.1 ZJ;rw[kR b,k]
 rw[ZK] at Z
 obtain⟨e,rfl,Zac,Zq,_,_,ZL⟩:=Ar Z;have Zr:=Zb.cut (p:=a) (q:=e) aa Zq
 have Zad:=Zb.xb
 have Zae:d4 ((rows.take e).drop a)≤d4 rows:=fp (Pv _ _) (Al _ _)
 have Zaf:=Py ((rows.take e).drop a)
 have Zag: ((rows.take e).drop a).length=e - a:=by rw[fz,dn];omega
 have ZM:=X1 (rows:=(rows.take e).drop a) (λr h=>ZB r (iu (lC h)))
 refine al ?_;refine iL (E:=mB) hD sb rfl rfl rfl a7 aa (λZah ZN=>?_);refine cw zp rfl rfl rfl (λZai ZO j u T=>ZO.gx (E:=mB) hD ZN bz j u T) ?_;refine aq ?_;intro Zs Zaj Zak;refine al ?_;refine dq (q:=0) underlying231 gr rfl rfl rfl a7 aa ?_;refine aq ?_;refine dq (q:=1) underlying231 gr rfl rfl rfl a7 aa ?_;refine aq ?_;refine fh a e dI rfl rfl (.inl ⟨_,_,rfl,rfl,rfl⟩) (.inl ⟨_,_,rfl,rfl,rfl⟩) aa aa ?_;refine al ?_;refine aZ (l0:=[]) aA.nil rfl NG rfl (λH D=>(Pi H F _ (e - a) (c - a) _ (Zr.ext D.ext av) aa aa).mono (λ_ _ h=>h.fk a1)) (λZc Zal=>?_);refine aq ?_;refine aZ (l0:=[]) aA.nil rfl NF rfl (λH D=>XZ H _ Zc.A Zc.n Zc.c (qY ((rows.take e).drop a)) cols ((D.has (c:=qp bJ (qY ((rows.take e).drop a)) Zc) aQ).2) aa Zy Zz ZM) (λf ZP=>?_);refine al ?_;obtain⟨Zt,ZQ,Zam⟩:=ZP;have Zi:d4 (bW f.l)≤1000000:=by rw[C6 Zt];exact fp (kT _ aa) ZA
 refine aZ (l0:=[]) aA.nil rfl EK rfl (λH D=>(FT H F _ (e - a) (c - a) _ (Zr.ext D.ext av) aa aa).mono (λ_ _ h=>h.fk a1)) (λO ZR=>?_);refine aq ?_;refine aZ (l0:=[]) aA.nil rfl EK rfl (λH D=>(FT H _ f.A f.l.length f.c (bW f.l) (sC (D.has (c:=f.au) bF) (D.has (c:=f.cc) cp)) aa Zi).mono (λ_ _ h=>h.fk a1)) (λQ Zu=>?_);refine bw ?_;rw[oB] at ZR Zu
 rw[cN] at Zu
 refine aq ?_;refine b3 (ι:=Nat × List bl) (λt=>[(0,.slice A n c),(1,.int .i64 (cols:Int)),(2,.slice X m d),(8,.slice I l.length J),(9,z.val),(11,ptr Zs),(13,f.val),(14,.slice O.A O.n O.c),(15,.slice Q.A Q.n Q.c),(29,P.val),(30,.int .i64 (P.l.length:Int)),(31,.int .i64 (i:Int)),(49,.slice X m d),(50,.int .i64 (m:Int)),(51,.int .i64 (t.1 :Int))])
  (λt=>af w [] [aD Zs [.int .i64 (a:Int),.int .i64 (e:Int)] 231,qp bS (iB (bW f.l)) Q,qp bS (iB ((rows.take e).drop a)) O,f.au,f.cc,z.au,z.cc,au 40 cq I J t.2,P.au])
  (λt=>t.1≤m∧t.2.length=m∧(∀p,l[0]? = some p→0≤p.row→p.row<(a:Int)→Good t.2 z.l.length)∧ ∀p,l[0]? = some p→(a:Int)≤p.row→p.row<(e:Int)→1≤t.1→Good t.2 (z.l.length+f.l.length)) (λt=>m - t.1) ?_ ?_
 exact λw' W=>⟨(0,q),⟨bN _,Zg,Zh,λ_ _ _ _ h=>by omega⟩,(Sub.cons rfl (Sub.cons rfl (Sub.cons rfl (Sub.cons rfl (Sub.cons rfl (mA rfl rfl rfl rfl rfl rfl rfl rfl rfl rfl)))))),W.aw ae⟩
 rintro⟨j,B⟩ ⟨T,K,N,V⟩;dsimp only at T K N V ⊢
 refine al ?_;refine aj (λZS=>?_) (λZS=>?_);obtain⟨⟨S,Y⟩,R⟩ : ∃p,l[j]? = some p:=⟨_,bE aa⟩;obtain⟨bX,Zd,ZT,Ze⟩:=ai.at_ R;obtain⟨Za,U⟩:=Zn aa;have Zv: ∀off,0≤(jP (bW f.l) off).row∧(jP (bW f.l) off).row<(f.l.length:Int)∧0≤(jP (bW f.l) off).dm:=λoff=>by
  have:=X0 (bW f.l) off (by rw[cN];exact ZQ)
  rwa [cN] at this
 have ZU:=Zv (jw ((rows.take e).drop a) ⟨max 0 S - (a:Int),0⟩)
 have ZV:=Zv (jw ((rows.take e).drop a) ⟨max 0 S - (a:Int),Y⟩)
 refine aC ?_;refine bD (q:=j) dQ rfl rfl rfl Zd rfl aa ?_;refine cw (vs:=[.int .i64 S,.int .i64 Y]) em rfl rfl rfl (λZw b j u T=>b.ct (Ze j u T) av) ?_;refine aq ?_;intro Zan Zao Zap;refine eT ?_;refine bD (q:=j) dQ rfl rfl rfl Zd rfl aa ?_;refine aq ?_;refine ba (v:= .int .i64 S) bM rfl rfl (λZw b=>b.ct (Ze 0 _ rfl) av) ?_;refine ah ?_;refine aj (λZW=>?_) (λZW=>?_);refine aR ?_;refine dq (q:=0) underlying231 gr rfl rfl rfl a7 aa ?_;refine ah ?_;refine aV 72 rfl (λaH=>?_) (λaH=>?_);have ZX:=aY aH
 refine ef ?_;exact bg (j+1,B) ⟨aa,K,N,λp b k o _=>(gF j).elim (λC=>by subst C;rw[R] at b;cases b;exfalso;dsimp only at *;omega) (λy=>V p b k o y)⟩ bm (Sub.cons rfl (Sub.cons rfl (Sub.cons rfl (Sub.cons rfl (Sub.cons rfl (mA rfl rfl rfl rfl rfl rfl rfl rfl rfl rfl)))))) (λ_ h=>h.aw ae);have ZX:=a8 aH
 refine ay ?_;refine dq (q:=1) underlying231 gr rfl rfl rfl a7 aa ?_;refine aC ?_;refine aj (λZY=>?_) (λZY=>?_);refine aK ?_;exact bg (j+1,B) ⟨aa,K,N,λp b k o _=>(gF j).elim (λC=>by subst C;rw[R] at b;cases b;exfalso;dsimp only at *;omega) (λy=>V p b k o y)⟩ bm (Sub.cons rfl (Sub.cons rfl (Sub.cons rfl (Sub.cons rfl (Sub.cons rfl (mA rfl rfl rfl rfl rfl rfl rfl rfl rfl rfl)))))) (λ_ h=>h.aw ae);refine al ?_;refine dq (q:=0) underlying231 gr rfl rfl rfl a7 aa ?_;refine bo ?_;refine ao rfl EM rfl (λH D=>FU H _ O.A O.n O.c ((rows.take e).drop a) ((D.has (c:=qp bS (iB ((rows.take e).drop a)) O) hD).2) _ _ aa aa) ?_;refine ao rfl EL rfl (λH D=>sy H _ Q.A Q.n Q.c (bW f.l) ((D.has (c:=qp bS (iB (bW f.l)) Q) cp).2) _ (KD _ aa) aa Zi) ?_;refine b5 ?_;refine bD (q:=j) dQ rfl rfl rfl U rfl aa ?_;refine tN (E:=cq) (e:=40) (A:=I) (c:=J) (L:=B) (g:=Za) (q:=j) (a:=(⟨_,_⟩ :bl)) em rfl rfl U aa Fy ?_;refine aC ?_
 (refine bg (j+1,B.set j ⟨(jP (bW f.l) (jw ((rows.take e).drop a) ⟨max 0 S - (a:Int),0⟩)).row+(z.l.length:Int),(jP (bW f.l) (jw ((rows.take e).drop a) ⟨max 0 S - (a:Int),0⟩)).dm⟩) ⟨aa,by dsimp only;rw[fT];exact K,λp b k o=>?_,λp b k o _=>?_⟩ bm (Sub.cons rfl (Sub.cons rfl (Sub.cons rfl (Sub.cons rfl (Sub.cons rfl (mA rfl rfl rfl rfl rfl rfl rfl rfl rfl rfl)))))) (λ_ h=>h.aw ae);exact (gF j).elim (λC=>by subst C;rw[R] at b;cases b;exfalso;dsimp only at *;omega) (λy=>(N p b k o).set y);exact (gF j).elim (λC=>KC aa C (ZU)) (λy=>(V p b k o y).set y))
 refine aC ?_;refine dq (q:=0) underlying231 gr rfl rfl rfl a7 aa ?_;refine ah ?_;refine aV 72 rfl (λZj=>?_) (λZj=>?_);have ZZ:=aY Zj
 refine ef ?_;exact bg (j+1,B) ⟨aa,K,N,λp b k o _=>(gF j).elim (λC=>by subst C;rw[R] at b;cases b;exfalso;dsimp only at *;omega) (λy=>V p b k o y)⟩ bm (Sub.cons rfl (Sub.cons rfl (Sub.cons rfl (Sub.cons rfl (Sub.cons rfl (mA rfl rfl rfl rfl rfl rfl rfl rfl rfl rfl)))))) (λ_ h=>h.aw ae);have ZZ:=a8 Zj
 refine ay ?_;refine dq (q:=1) underlying231 gr rfl rfl rfl a7 aa ?_;refine aC ?_;refine aj (λZ0=>?_) (λZ0=>?_);refine aK ?_;exact bg (j+1,B) ⟨aa,K,N,λp b k o _=>(gF j).elim (λC=>by subst C;rw[R] at b;cases b;exfalso;dsimp only at *;omega) (λy=>V p b k o y)⟩ bm (Sub.cons rfl (Sub.cons rfl (Sub.cons rfl (Sub.cons rfl (Sub.cons rfl (mA rfl rfl rfl rfl rfl rfl rfl rfl rfl rfl)))))) (λ_ h=>h.aw ae);refine al ?_;refine dq (q:=0) underlying231 gr rfl rfl rfl a7 aa ?_;refine bo ?_;refine ao rfl EM rfl (λH D=>FU H _ O.A O.n O.c ((rows.take e).drop a) ((D.has (c:=qp bS (iB ((rows.take e).drop a)) O) hD).2) _ _ aa aa) ?_;refine ao rfl EL rfl (λH D=>sy H _ Q.A Q.n Q.c (bW f.l) ((D.has (c:=qp bS (iB (bW f.l)) Q) cp).2) _ (KD _ aa) aa Zi) ?_;refine b5 ?_;refine bD (q:=j) dQ rfl rfl rfl U rfl aa ?_;refine tN (E:=cq) (e:=40) (A:=I) (c:=J) (L:=B) (g:=Za) (q:=j) (a:=(⟨_,_⟩ :bl)) em rfl rfl U aa Fy ?_;refine aC ?_
 (refine bg (j+1,B.set j ⟨(jP (bW f.l) (jw ((rows.take e).drop a) ⟨max 0 S - (a:Int),Y⟩)).row+(z.l.length:Int),(jP (bW f.l) (jw ((rows.take e).drop a) ⟨max 0 S - (a:Int),Y⟩)).dm⟩) ⟨aa,by dsimp only;rw[fT];exact K,λp b k o=>?_,λp b k o _=>?_⟩ bm (Sub.cons rfl (Sub.cons rfl (Sub.cons rfl (Sub.cons rfl (Sub.cons rfl (mA rfl rfl rfl rfl rfl rfl rfl rfl rfl rfl)))))) (λ_ h=>h.aw ae);exact (gF j).elim (λC=>by subst C;rw[R] at b;cases b;exfalso;dsimp only at *;omega) (λy=>(N p b k o).set y);exact (gF j).elim (λC=>KC aa C (ZV)) (λy=>(V p b k o y).set y))
 refine aK ?_;refine er (E:=cf) dI rfl rfl rfl oy (λ_ _=>jb) b4 aa (λZk Zl=>?_);refine aK ?_;refine bg ⟨i+1,⟨Zk,Zl,z.l++f.l⟩,B⟩ ⟨by dsimp only;omega,Zf.ow Zt,?_,K,e,ZL,Zq,λp b k o=>?_⟩ bm (w3 rfl rfl rfl rfl rfl rfl rfl rfl) (λ_ h=>?_);dsimp only;rw[b0];omega
 dsimp only;have Zaq:1≤m:=by have:=(cU.1 b).1;omega
 rw[b0];by_cases Z1:p.row<(a:Int)
 exact (N p b k Z1).mono aa;exact V p b aa o aa;have Zx:=(h.aw (l:=[z.cc,f.cc,au 157 cf Zk Zl (z.l++f.l),au 40 cq I J B,P.au]) ae).Bx
 rw[←gb] at Zx
 exact Zx.aw (l:=[au 157 cf Zk Zl (z.l++f.l),aT ((z.l++f.l).map bR.aF),au 40 cq I J B,P.au]) ae;have Z2:P.l.drop i=[]:=List.drop_eq_nil_of_le aa
 rw[Z2] at Z
 have Zar:a=n:=by
  rcases Z with ⟨_,h⟩ | ⟨M,s,h,_⟩
  exact h;exact absurd h.symm av
 refine b5 ?_;refine b3 (ι:=Nat × List bl) (λt=>[(0,.slice A n c),(8,.slice I l.length J),(9,z.val),(106,.slice X m d),(107,.int .i64 (m:Int)),(108,.int .i64 (t.1 :Int))])
  (λt=>af w [] [z.au,z.cc,au 40 cq I J t.2,P.au]) (λt=>t.1≤m∧t.2.length=m∧ ∀p,l[0]? = some p→0≤p.row→p.row<(n:Int)→Good t.2 z.l.length) (λt=>m - t.1) ?_ ?_
 exact λw' W=>⟨(0,q),⟨bN _,Zg,λp b k o=>Zh p b k aa⟩,(hg rfl rfl rfl rfl rfl rfl),W⟩
 rintro⟨j,B⟩ ⟨T,K,N⟩;dsimp only at T K N ⊢
 refine al ?_;refine aj (λZ3=>?_) (λZ3=>?_);obtain⟨⟨S,Y⟩,R⟩ : ∃p,l[j]? = some p:=⟨_,bE aa⟩;obtain⟨bX,Zd,ZT,Ze⟩:=ai.at_ R;obtain⟨Za,U⟩:=Zn aa;refine aC ?_;refine bD (q:=j) dQ rfl rfl rfl Zd rfl aa ?_;refine cw (vs:=[.int .i64 S,.int .i64 Y]) em rfl rfl rfl (λZw b j u T=>b.ct (Ze j u T) av) ?_;refine aq ?_;intro Zas Zat Zau;refine bw ?_;refine aV 118 rfl (λZm=>?_) (λZm=>?_);have Z4:=aY Zm
 refine bH ?_;refine bD (q:=j) dQ rfl rfl rfl U rfl aa ?_;refine tN (E:=cq) (e:=40) (A:=I) (c:=J) (L:=B) (g:=Za) (q:=j) (a:=(⟨(z.l.length:Int),0⟩ :bl)) em rfl rfl U aa nj ?_;refine aC ?_;exact bg (j+1,B.set j ⟨(z.l.length:Int),0⟩) ⟨aa,by dsimp only;rw[fT];exact K,λp b k o=>(gF j).elim (λC=>by subst C;rw[R] at b;cases b;exfalso;dsimp only at *;omega) (λy=>(N p b k o).set y)⟩ bm bO (λ_ h=>h.aw ae);have Z4:=a8 Zm
 refine aJ ?_;refine aj (λZ5=>?_) (λZ5=>?_);refine al ?_;refine bD (q:=j) dQ rfl rfl rfl U rfl aa ?_;refine tN (E:=cq) (e:=40) (A:=I) (c:=J) (L:=B) (g:=Za) (q:=j) (a:=(⟨(z.l.length:Int),0⟩ :bl)) em rfl rfl U aa nj ?_;refine aC ?_;exact bg (j+1,B.set j ⟨(z.l.length:Int),0⟩) ⟨aa,by dsimp only;rw[fT];exact K,λp b k o=>(gF j).elim (λC=>by subst C;rw[R] at b;cases b;exfalso;dsimp only at *;omega) (λy=>(N p b k o).set y)⟩ bm bO (λ_ h=>h.aw ae);refine aC ?_;exact bg (j+1,B) ⟨aa,K,N⟩ bm bO (λ_ h=>h.aw ae);refine cE ?_;intro Zav Z6;exact aP.bP (z,⟨I,J,B⟩) ⟨Zf,by dsimp only;omega,K,N⟩ (by rw[show l.length=B.length by omega]) (Z6.aw ae)
theorem X4 (w:World) (F:Nat→Prop) (A:Option Addr) (n c:Nat) (rows:List bQ) (e:ep w F A n c rows) (G:n≤1000000000) (p: ∀r∈rows,r.1.length≤1000000) (row:Int) (H:0≤row∧row≤1000000000000):Calls prog 189 [.slice A n c,.int .i64 row].toArray w
 (ca (λk:Nat=> .slice A k c) (λk=>k≤n∧(row<(n:Int)→row<(k:Int))) w):=by
 have I:=e.len
 have J:=e.xb
 refine aW func189 ntmps189 ?_;refine aC ?_;refine b3 (ι:=Nat) (λk=>[(0,.slice A k c),(1,.int .i64 row)]) (λ_=>af w [] []) (λk=>k≤n∧(row<(n:Int)→row<(k:Int))) (λk=>k) ?_ ?_;exact λw' s=>⟨n,⟨cd _,λh=>h⟩,(iA rfl rfl),s⟩
 rintro k ⟨i,j⟩;obtain⟨cs,bX,a,m,d,b⟩ : ∃(cs:List bh) (bX:Addr) (a:Option Addr) (m d:Nat),row+1<(k:Int)→A=some bX∧w.cell? ((bX.add ((k - 1)*2)).add 0)=some (.slice a m d)∧F bX.block∧Rd bJ w F a m d cs∧m≤1000000:=by
  by_cases t:row+1<(k:Int)
  obtain⟨⟨cs,K⟩,l⟩ : ∃v,rows[k - 1]? = some v:=⟨_,bE aa⟩;have L:cs.length≤1000000:=p _ (c8 l)
  obtain⟨bX,a,m,d,u,x,y,o⟩:=e.at_ l;have M:cs.length=m:=o.len
  exact⟨cs,bX,a,m,d,λ_=>⟨u,y 0 _ rfl,x,o,aa⟩⟩;exact⟨[],⟨0,0,none⟩,none,0,0,λh=>absurd h t⟩
 refine aJ ?_;refine aV 10 rfl (λf=>?_) (λf=>?_);have z:=aY f
 refine aJ ?_;refine bD (q:=k - 1) dI rfl rfl rfl (b aa).1 aa aa ?_;refine ah ?_;refine ba (v:= .slice a m d) sa rfl rfl (λN B=>B.ct (b aa).2.1 av) ?_;refine aq ?_;refine ao rfl EN rfl (λC D=>FL C F a m d cs ((b aa).2.2.2.1.ext D.ext av) (b aa).2.2.2.2) ?_;refine ay ?_;refine aj (λaH=>?_) (λaH=>?_);refine aK ?_;refine fh 0 (k - 1) dI rfl rfl (.inr ⟨rfl,rfl⟩) (.inl ⟨_,_,rfl,rfl,aa⟩) aa aa ?_;refine ah ?_;exact bg (k - 1) ⟨aa,λ_=>by omega⟩ aa (Sub.cons (by rw[kh,kh,vD];rfl) (ug rfl)) (λ_ h=>h);refine bH ?_;intro E g;exact ca.of k ⟨i,j⟩ rfl g.ext;have z:=a8 f
 refine lJ ?_;intro E g;exact ca.of k ⟨i,j⟩ rfl g.ext
theorem af.X5 {b w:World} {S:List Nat} {cs cs' l:List Chunk} (h:af b S cs w) (a:aA cs l cs') {k:Nat} (c:k∈aB l) (d:k<b.heap.size):k∈S:=
 (h.perm a.perm).ee k (by rw[ix];exact n7 _ c) d
theorem X6 (w:World) (r:dh) (S:bb w (b9 r)) (G:cV r) (F:Nat→Prop) (A:Option Addr) (n c:Nat) (rows:List bQ) (H:ep w F A n c rows) (f: ∀k,F k→k∉aB (b9 r)) (Zg:n≤1000000000) (T: ∀x∈rows,x.1.length≤1000000):
 Calls prog 190 [ptr r.g,.slice A n c].toArray w (aP (λi:Int × dh=> .int .i64 i.1) (b9 r) (λi=>b9 i.2) (λi=>i.2.g=r.g∧i.2.room=r.room∧cV i.2∧ ∀x∈i.2.rows,x∈rows) w):=by
 have Zh:=H.len
 have U:=H.hA
 obtain⟨g,eN,room,I,J,gone⟩:=r;have K:=G.room
 have L:=G.gone
 dsimp only at K L
 refine bI func190 ntmps190 S ?_;refine O8 ?_;refine cG (H':=af w (aB (b9 ⟨g,eN,room,I,J,gone⟩)) (b9 ⟨g,⟨none,0,[]⟩,room,0,0,gone⟩)) ?_ (Sub.refl _) (λx a=>(((a.aw (l:=[dh.an ⟨g,⟨none,0,[]⟩,room,0,0,gone⟩]) ae).eO 157 cf).tg).aw ae);refine ef ?_;refine b3 (ι:=Nat × dh) (λt=>[(0,ptr g),(5,.int .u64 gone),(23,.slice A n c),(24,.int .i64 (n:Int)),(25,.int .i64 (t.1 :Int))]) (λt=>af w (aB (b9 ⟨g,eN,room,I,J,gone⟩)) (b9 t.2)) (λt=>t.1≤n∧t.2.g=g∧t.2.room=room∧cV t.2∧ ∀x∈t.2.rows,x∈rows) (λt=>n - t.1) ?_ ?_;exact λw' V=>⟨(0,⟨g,⟨none,0,[]⟩,room,0,0,gone⟩),⟨bN _,rfl,rfl,⟨by show ((0 :Nat):Int)≤room;omega,K,⟨mU 0,mU 0⟩,⟨mU 0,.inr rfl⟩,L⟩,λx a=>by simp[dh.rows] at a⟩,(ec rfl rfl rfl rfl rfl),V⟩
 rintro⟨i,⟨o,p,nC,s,z,B⟩⟩ ⟨hi,M,N,b,C⟩;dsimp only at hi M N b C ⊢
 subst M N;have W:=b.gone
 dsimp only at W
 refine al ?_;refine aj (λX=>?_) (λX=>?_);obtain⟨⟨cs,O⟩,D⟩ : ∃v,rows[i]? = some v:=⟨_,bE aa⟩;have Zi:cs.length≤1000000:=T _ (c8 D)
 obtain⟨bX,P,m,d,Y,Z,Za,Q⟩:=U.at_ D;have Zj:cs.length=m:=Q.len
 refine al ?_;refine bD (q:=i) dI rfl rfl rfl Y rfl aa ?_;refine cw (vs:=[.slice P m d,.bool O]) gL rfl rfl rfl (λZk Zb j u Zc=>Zb.ct (Za j u Zc) (by rw[block_add,block_add];exact f _ Z.1)) ?_;refine aq ?_;intro Zl Zm Zn;refine al ?_;refine aZ (l0:=b9 ⟨o,p,nC,s,z,B⟩) ae rfl zQ rfl (λZd E=>AM Zd ⟨o,p,nC,s,z,B⟩ (E.bp ae) b _ P m d cs O (Q.ext E.ext (λk e=>f k e.1)) (λk e Ze=>f k e.1 (E.X5 ae Ze e.2)) aa) (λx a=>?_);refine aC ?_;refine bg (i+1,x.2) ⟨aa,a.1,a.2.1,a.2.2.1,λy R=>?_⟩ bm (ec rfl rfl rfl rfl rfl) (λ_ h=>h.aw ae);rw[a.2.2.2.1] at R
 exact (Gj R).elim (λh=>C y h) (λh=>by rw[h];exact c8 D);refine bw ?_;refine gI rfl rfl rfl rfl ?_;refine dl rfl rfl underlying34 underlying3 rfl ?_;refine ay ?_;intro Zo Zf;exact aP.bP (_,⟨o,p,nC,s,z,B⟩) ⟨rfl,rfl,b,C⟩ rfl (Zf.aw ae)
end Go.Proofs.YtkeokgcdnfjaaaaGreatDoor.Mq
namespace Go.Proofs.YtkeokgcdnfjaaaaGreatDoor.Mq
open Go Go.RowKit Go.Proofs
theorem X7 {w:World} {r:db} (i:r.au.pred w) {lo:Nat} (j:lo≤r.l.length) (m: (aT ((r.l.take lo).map bR.aF)).pred w):ep w (λk=>k∈aB [r.au,aT ((r.l.take lo).map bR.aF)]) r.A lo r.c (bW (r.l.take lo)):=by
 have n:w.ownsRow 0 157 k7.sz r.val r.l.length (k7.all (r.l.map bR.uI)):=by
  have:w.ownsRow 0 157 2 r.val r.l.length (cf.all r.l):=i
  rw[F2] at this;exact this
 obtain⟨A,c,o,s⟩:=Rd.fX (E:=k7) n av;injection o with t D u
 subst t u;have b:=s.cut (p:=0) (q:=lo) (bN _) j
 rw[kh,kh,n1,←List.map_take] at b
 rw[show (if r.c=0 then r.A else r.A.map (λx=>x.add (0*k7.sz)))=r.A from vD r.A r.c] at b
 refine⟨_,b.dC (λk a=>e4.2 ⟨r.au,by simp,iV.2 a⟩),by simp;rfl,λk x row a e=>?_⟩;rw[eJ] at a e
 cases f: (r.l.take lo)[k]? with
 | none=>rw[f] at a;cases a
 | some g=>
  rw[f] at a e
  cases a;cases e
  have h:g.aF∈(r.l.take lo).map bR.aF:=dF.2 ⟨g,c8 f,rfl⟩
  have v:=m g.aF h
  obtain⟨F,d,y,z⟩:=uJ v;injection y with B G C
  subst B C;exact z.dC (λk a=>e4.2 ⟨aT ((r.l.take lo).map bR.aF),by simp,e4.2 ⟨g.aF,h,iV.2 a⟩⟩)
theorem af.yV {b w:World} {S:List Nat} {cs l1 l2:List Chunk} (h:af b S (aT (l1++l2)::cs) w):af b S (aT l1::aT l2::cs) w:=by
 have a:=h.k4
 rw[e0] at a
 have c:=a.close'
 have d:af b S (l2++(aT l1::cs)) w:=c.perm List.perm_middle.symm
 exact d.close'.perm (List.Perm.swap _ _ _)
theorem KE (g i:Nat): ((⟨g,0,none⟩ :Addr).add (1*2)).add (i*2)=(⟨g,0,none⟩ :Addr).add ((i+1)*cq.sz):=by
 show _=(⟨g,0,none⟩ :Addr).add ((i+1)*2)
 rw[Addr.add_lit,Addr.add_lit,Addr.add_lit];congr 1
 omega
theorem KF {cols:Int} (h:2≤cols∧cols≤1000): ((nJ cols).1.length:Int)=cols∧gE (nJ cols).1:=by
 unfold nJ la;refine⟨by rw[g_];omega,λc a=>?_⟩;rw[(ua.1 a).2];exact bN _
abbrev v7 (q:eb):Value:= .slice (if q.c=1 then q.A else q.A.map (λx=>x.add (1*2))) (q.l.length - 1) (q.c - 1)
structure C7 (p:bq) (rows cols:Int) (m:Nat) (i:bl × eb × bq):Prop where
 g:i.2.2.g=p.g
 r:cV i.2.2.r
 room:i.2.2.r.room=p.r.room
 P:cZ i.2.2.abs
 high: (i.2.2.s.l.length:Int)=rows
 wd:i.2.2.cols=cols
 be:i.2.2.be.l.length≤1
 y:0≤i.1.row∧i.1.row<rows
 x:0≤i.1.dm∧i.1.dm≤cols
 pl:i.2.1.l.length=m+1
end Go.Proofs.YtkeokgcdnfjaaaaGreatDoor.Mq
