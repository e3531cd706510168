/- part 35 of the proof -/
import Derived.Test.YtlgnfdodnhokjaaGreatDoorQ34
namespace Go.Proofs.YtlgnfdodnhokjaaGreatDoor.Mq
open Go Go.RowKit Go.Proofs Tryz
theorem wi {b w:World} {S:List Nat} {s:cO} {cs:List Chunk} {N:Int} {x:lB} {p:aY} (a:fP s N) (i:x.text.length≤256) {e z:bb} (d:s.l.getLast?=some e) (j:z.g=e.g) (k:1≤z.br∧z.br≤4) {f:er→er} (m:f e.abs=z.abs) (dir:List UInt8)
 (n:gu s.abs x p=jx { s.abs with dir:=dir } f) (o:af b S (z.an::aR ((s.l.map bb.an).eraseIdx (s.l.length - 1))::(cO.an { s with dir:=dir })::et s.A s.c s.l::cs) w):
 jy s N x p { s with l:=s.l.set (s.l.length - 1) z,dir:=dir }∧af b S (cV { s with l:=s.l.set (s.l.length - 1) z,dir:=dir }) w:=by
 have h:=(C5 d).1
 refine⟨jy.of a i rfl (Xc a.br k) ?_,?_⟩;rw[n];show (⟨_,_,_,_⟩ :e8)=⟨_,_,_,_⟩
 rw[Xb d m];rfl
 have q:=o.C4 h
 simp only[cV,cO.an,rR,Xa h j,gc];exact q.ax ae
theorem wj {w a:World} {s z:cO} {N:Int} {x:lB} {p:aY} (h:jy s N x p z∧af w (aB (cV s)) (cV z) a):y1 s N x p w (.returned (.tuple #[])) a:=aP.bQ z h.1 rfl h.2
theorem Xg (w:World) (s:cO) (Zd:a8 w (cV s)) {N:Int} (i:fP s N) (V:N≤1000000000000000) (x:lB) (r:x.text.length≤256) (p:aY) {e:bb} (t:s.l.getLast?=some e):Calls prog 77 [ptr s.g,C7 x,d_ p].toArray w (y1 s N x p w):=by
 have y:=i.br
 have u:e∈s.l:=ut t
 have v:=y e u
 have B: (s.l.map bb.an)[s.l.length - 1]? = some e.an:=by rw[eD,(C5 t).1];rfl
 refine bI func77 ntmps77 Zd ?_;refine ah ?_;intro Zs Zt Zu;refine ar ?_;intro Zv Zw Zx;refine bp ?_;refine ao rfl zS rfl (λa b=>C1 a p) ?_;refine ay ?_;refine b1 rfl (λC=>?_) (λC=>?_);have R: ¬dk p:=λh=>by rw[bX h] at C;exact absurd C aZ
 refine ah ?_;intro m c;exact aN s (jy.of i r rfl y (by unfold gu;rw[aw R])) c;have R:dk p:=Classical.byContradiction λh=>by rw[cg h] at C;exact absurd C aZ
 have ai:=CV (yY R) (CU (i.wf.gO e.abs (dH.2 ⟨e,u,rfl⟩)))
 have n:=Xd t v x R
 obtain⟨q,X⟩ : ∃q,q=ix p (hA e.abs):=⟨_,rfl⟩;rw[←X] at ai n
 have Ze:x.kind=1→gN s.abs 1 q=gu s.abs x p:=λh=>by rw[n,aw h]
 have Y: (x.kind=2∨x.kind=3)∧ ¬(1≤(e.br:Int)∧(e.br:Int)≤x.kind - 1)→gN s.abs x.kind.toNat q=gu s.abs x p:=λh=>by
  rcases h.1 with j | j
  rw[n,ag aa,aw j,ag aa,j];rfl
  rw[n,ag aa,ag aa,aw j,ag aa,j];rfl
 have Z: (x.kind=2∨x.kind=3)∧(1≤(e.br:Int)∧(e.br:Int)≤x.kind - 1)→gu s.abs x p=jx s.abs (λd=>gM d x.kind.toNat q):=λh=>by
  rcases h.1 with j | j
  rw[n,ag aa,aw j,aw aa,j];rfl
  rw[n,ag aa,ag aa,aw j,aw aa,j];rfl
 have Zf:x.kind=4∧(1≤(e.br:Int)∧(e.br:Int)≤3)→gu s.abs x p=jx s.abs (λd=>{ gM d 4 q with code:=x.code,has:=x.has }):=λh=>by
  rw[n,ag aa,ag aa,ag aa,aw h.1,aw h.2]
 have Zg:x.kind=5∧(1≤(e.br:Int)∧(e.br:Int)≤3)→gu s.abs x p=jx s.abs (λd=>{ d with line:=x.text }):=λh=>by
  rw[n,ag aa,ag aa,ag aa,ag aa,aw h.1,aw h.2]
 have Zh:x.kind=6∧(1≤(e.br:Int)∧(e.br:Int)≤2)→gu s.abs x p=jx { s.abs with dir:=x.text } (λd=>{ d with dir:=x.text }):=λh=>by
  rw[n,ag aa,ag aa,ag aa,ag aa,ag aa,aw h.1,aw h.2]
 have Zi:x.kind=6∧ ¬(1≤(e.br:Int)∧(e.br:Int)≤2)→({ s with dir:=x.text }:cO).abs=gu s.abs x p:=λh=>by
  rw[n,ag aa,ag aa,ag aa,ag aa,ag aa,aw h.1,ag h.2];rfl
 have W: (x.kind=4∨x.kind=5)∧ ¬(1≤(e.br:Int)∧(e.br:Int)≤3)∨ ¬x.kind=1∧ ¬x.kind=2∧ ¬x.kind=3∧ ¬x.kind=4∧ ¬x.kind=5∧ ¬x.kind=6→s.abs=gu s.abs x p:=λh=>by
  rw[n];rcases h with ⟨j | j,Za⟩ | h
  rw[ag aa,ag aa,ag aa,aw j,ag Za];rw[ag aa,ag aa,ag aa,ag aa,aw j,ag Za];rw[ag h.1,ag h.2.1,ag h.2.2.1,ag h.2.2.2.1,ag h.2.2.2.2.1,ag h.2.2.2.2.2]
 refine ay ?_;refine ao rfl zR rfl (λa b=>(by have h:=C2 a s (b.has cr) (b.has gD);rw[t] at h;exact h)) ?_;refine bp ?_;refine bF [0,1] 3 [[(2,false,[]),(3,false,[]),(4,true,[])]] ?_;refine aS ?_;refine ao rfl ED rfl (λa b=>Kh a e (mu (b.has hM) u) v) ?_;refine ah ?_;refine ao rfl EC rfl (λa b=>(by have h:=J3 a p (hA e.abs);rw[←X] at h;exact h)) ?_;refine hr ?_;refine aj (λZb=>?_) (λZb=>?_);refine ah ?_;refine a6 (l0:=cV s) ae rfl sB rfl (λa b=>tZ a s (b.bo ae) i V _ 1 rfl aa q ai) (λz o=>?_);refine ah ?_;intro m c;exact aN z ⟨o.1,o.2.1,o.2.2.trans (Ze Zb)⟩ c;refine aC ?_;refine aj (λaH=>?_) (λaH=>?_);have Zc:=aH
 refine aq ?_;refine eE rfl ((bX Zc)) ?_;refine bx ?_;refine ao rfl nq rfl (λa b=>wh a e (mu (b.has hM) u) _ _) ?_;refine aq ?_;refine aj (λZj=>?_) (λZj=>?_);refine aq ?_;refine v7 (L:=s.l.map bb.an) (k:=s.l.length - 1) nC B ?_;refine aq ?_;refine a6 (l0:=[e.an]) ae rfl w0 rfl (λa b=>C6 a e (b.bo ae) _ x.kind.toNat aa aa v.2 q) (λ⟨S,T,U,D,E,F,G,H,I,J,K,M⟩ ⟨A,O,P,Q⟩=>?_);refine ah ?_;intro m c;exact wj (wi i r t (z:=⟨S,T,U,D,E,F,G,H,I,J,K,M⟩) A (by dsimp only at P Q ⊢;omega) (f:=λd=>gM d x.kind.toNat q) O.symm s.dir (Z aa) (c.ax ae));refine aS ?_;refine a6 (l0:=cV s) ae rfl sB rfl (λa b=>tZ a s (b.bo ae) i V _ x.kind.toNat aa aa q ai) (λz o=>?_);refine ah ?_;intro m c;exact aN z ⟨o.1,o.2.1,o.2.2.trans (Y aa)⟩ c;have Zc:=aH
 refine ay ?_;refine aj (λZk=>?_) (λZk=>?_);refine bx ?_;refine ao rfl nq rfl (λa b=>wh a e (mu (b.has hM) u) _ _) ?_;refine aq ?_;refine aj (λZl=>?_) (λZl=>?_);refine aq ?_;refine v7 (L:=s.l.map bb.an) (k:=s.l.length - 1) nC B ?_;refine aq ?_;refine a6 (l0:=[e.an]) ae rfl w0 rfl (λa b=>C6 a e (b.bo ae) _ x.kind.toNat aa aa v.2 q) (λ⟨S,T,U,D,E,F,G,H,I,J,K,M⟩ ⟨A,O,P,Q⟩=>?_);refine ah ?_;intro m c;exact wj (wi i r t (z:=⟨S,T,U,D,E,F,G,H,I,J,K,M⟩) A (by dsimp only at P Q ⊢;omega) (f:=λd=>gM d x.kind.toNat q) O.symm s.dir (Z aa) (c.ax ae));refine aS ?_;refine a6 (l0:=cV s) ae rfl sB rfl (λa b=>tZ a s (b.bo ae) i V _ x.kind.toNat aa aa q ai) (λz o=>?_);refine ah ?_;intro m c;exact aN z ⟨o.1,o.2.1,o.2.2.trans (Y aa)⟩ c;refine al ?_;refine aj (λZm=>?_) (λZm=>?_);refine ah ?_;refine ao rfl nq rfl (λa b=>wh a e (mu (b.has hM) u) _ _) ?_;refine aq ?_;refine aj (λZn=>?_) (λZn=>?_);refine ah ?_;refine v7 (L:=s.l.map bb.an) (k:=s.l.length - 1) nC B ?_;refine ar ?_;refine a6 (l0:=[e.an]) ae rfl w0 rfl (λa b=>C6 a e (b.bo ae) _ 4 rfl aa v.2 q) (λ⟨S,T,U,D,E,F,G,H,I,J,K,M⟩ ⟨A,O,P,Q⟩=>?_);refine aq ?_;dsimp only at A Q P;subst A
 refine eF [0,1,2,3,4,5,6,7,8] 2 [[(9,false,[10,11,12]),(13,true,[])]] (_) mixed ab (λ_ c=>c.drew) (λ_ h=>h.rem bw.head) ?_;refine bx ?_;refine b3 (λ_=>True) (λ_ h=> .inr (h.rem bw.head)) (λ_ h=>a1) ?_;refine bp ?_;intro m c;exact wj (wi i r t (z:=⟨e.g,x.code,x.has,D,E,F,G,H,I,J,K,M⟩) rfl bm (f:=λd=>{ gM d 4 q with code:=x.code,has:=x.has }) (by dsimp only;rw[←O];rfl) s.dir (Zf aa) (c.ax ae));refine ah ?_;intro m c;exact aN s (jy.of i r rfl y (W aa)) c;refine al ?_;refine aj (λZo=>?_) (λZo=>?_);refine ah ?_;refine ao rfl nq rfl (λa b=>wh a e (mu (b.has hM) u) _ _) ?_;refine aq ?_;refine aj (λZp=>?_) (λZp=>?_);refine aq ?_;refine v7 (L:=s.l.map bb.an) (k:=s.l.length - 1) nC B ?_;refine aJ ?_;intro m c;exact wj (wi i r t (z:={ e with line:=x.text }) rfl v (f:=λd=>{ d with line:=x.text }) rfl s.dir (Zg aa) (c.ax ae));refine ah ?_;intro m c;exact aN s (jy.of i r rfl y (W aa)) c;refine al ?_;refine aj (λZq=>?_) (λZq=>?_);refine bH ?_;refine ao rfl nq rfl (λa b=>wh a e (mu (b.has hM) u) _ _) ?_;refine aq ?_;refine aj (λZr=>?_) (λZr=>?_);refine aq ?_;refine v7 (L:=s.l.map bb.an) (k:=s.l.length - 1) nC B ?_;refine aJ ?_;intro m c;exact wj (wi i r t (z:={ e with dir:=x.text }) rfl v (f:=λd=>{ d with dir:=x.text }) rfl x.text (Zh aa) (c.ax ae));refine ah ?_;intro m c;exact aN { s with dir:=x.text } (jy.of i r rfl y (Zi aa)) c;refine ah ?_;intro m c;exact aN s (jy.of i r rfl y (W aa)) c
theorem Xh (w:World) (s:cO) (a:a8 w (cV s)) {N:Int} (b:fP s N) (c:N≤1000000000000000) (x:lB) (d:x.text.length≤256) (p:aY):Calls prog 77 [ptr s.g,C7 x,d_ p].toArray w (y1 s N x p w):=by
 cases f:s.l.getLast? with
 | none=>exact Xf w s a b c x d p f
 | some e=>exact Xg w s a b c x d p f
section
def iZ {α:Type} (f:α→α) (l:List α) (i:Nat):List α:=(l.take i).map f++l.drop i
section
variable {α:Type} {f:α→α} {l:List α} {i:Nat} {e:α}
theorem Kn:iZ f l 0=l:=by simp[iZ]
theorem Ko (h:l.length≤i):iZ f l i=l.map f:=by rw[iZ,ev h,ol h,eu]
theorem C8 (h:l[i]? = some e): (iZ f l i)[i]? = some e:=by
 have hi:=(cK.1 h).1
 rw[iZ,kp (by simp;omega),mB];simpa [iG (Nat.le_of_lt hi)] using h
theorem Xi (h:l[i]? = some e): (iZ f l i).set i (f e)=iZ f l (i+1):=by
 have hi:=(cK.1 h).1
 have b:=(cK.1 h).2
 have a: ((l.take i).map f).length=i:=by simp;omega
 unfold iZ;rw[sa _ _ aa,a,nh,lK hi,mE,fR,h];simp
end
theorem Kp {f:bb→bb} (a: ∀e,(f e).g=e.g) (A:Option Addr) (c:Nat) (l:List bb):et A c (l.map f)=et A c l:=by
 show gL _ _ _ (l.map f).length _ (jT.all ((l.map f).map bb.g))=_
 have e:l.map (bb.g ∘ f)=l.map bb.g:=uq (λe _=>a e)
 rw[cB,mC,e]
def kY (x:eh) (e:bb):bb:={ e with cut:=e.cut || qw e.b_ x }
theorem Xj (x:eh) {e:bb} (h:1≤e.br∧e.br≤4): (kY x e).abs=rP x e.abs:=by
 unfold rP;rw[we e h];rfl
theorem Xk (x:eh) {l:List bb} (h:gv l): (l.map (kY x)).map bb.abs=(l.map bb.abs).map (rP x):=by
 rw[mC,mC];exact uq (λe a=>Xj x (h e a))
theorem af.Xl {b w:World} {S:List Nat} {cs:List Chunk} {a c:bb} {l:List bb} (h:af b S (eW (a::c::l)::cs) w):af b S (a.an::c.an::eW l::cs) w:=by
 have d:af b S (a.an::aR (c.an::l.map bb.an)::cs) w:=h.pick (k:=0) rfl
 have e:af b S (aR (c.an::l.map bb.an)::a.an::cs) w:=d.perm (List.Perm.swap _ _ _)
 have f:af b S (c.an::eW l::a.an::cs) w:=e.pick (k:=0) rfl
 exact f.perm (ov (l₁:=[c.an,eW l]) (l₂:=cs))
theorem Xm {P:Program} {n:Nat} {d:Code} {Q:cq} {e:Fr} {b:World} {S:List Nat} {cs cs':List Chunk} {a c:bb} {l:List bb} (f:bw cs (eW (a::c::l)) cs') (h:dc P n d Q e (af b S (a.an::c.an::eW l::cs'))):dc P n d Q e (af b S cs):=
 cH h (Sub.refl _) (λ_ g=>(g.perm f.perm).Xl)
theorem af.C9 {b w:World} {S:List Nat} {cs:List Chunk} {c:bb} {l:List bb} (h:af b S (c.an::eW l::cs) w):af b S (eW (c::l)::cs) w:=by
 have a:af b S (aR [c.an]::eW l::cs) w:=h.close (l:=[c.an]) ae
 exact a.A7
theorem af.Kq {b w:World} {S:List Nat} {cs:List Chunk} {a c:bb} {l:List bb} (h:af b S (a.an::c.an::eW l::cs) w):af b S (eW (a::c::l)::cs) w:=by
 have d:af b S (c.an::eW l::a.an::cs) w:=h.perm (ov (l₁:=[c.an,eW l]) (l₂:=cs)).symm
 exact (d.C9.perm (List.Perm.swap _ _ _)).C9
theorem af.C_ {b w:World} {S:List Nat} {cs:List Chunk} {f:bb→bb} {l:List bb} {i:Nat} {e z:bb} (h:af b S (z.an::aR (((iZ f l i).map bb.an).eraseIdx i)::cs) w) (a:l[i]? = some e) (d:z=f e):af b S (eW (iZ f l (i+1))::cs) w:=by
 have c:=h.C4 (C8 a)
 rw[d,Xi a] at c
 exact c
abbrev cO.Xn (s:cO) (A:Option Addr) (c:Nat) (l:List bb):cO:={ s with A:=A,c:=c,l:=l }
theorem Xo (w:World) (s:cO) (Y:a8 w (cV s)) {N:Int} (Q:fP s N) (x:eh):Calls prog 127 [ptr s.g,rN x].toArray w
 (aP (λ_:Option Addr × Nat × List bb=> .tuple #[]) (cV s) (λt=>cV (s.Xn t.1 t.2.1 t.2.2)) (λt=>gv t.2.2∧t.2.2.map bb.abs=(jR x (s.l.map bb.abs)).map (rP x)) w):=by
 have Z:=Q.len
 have R:=Q.br
 obtain⟨g,A,c,l,most,ids,dir⟩:=s;dsimp only at Z R ⊢
 refine bI func127 ntmps127 Y ?_;refine ah ?_;intro v Zh Zi;refine aK ?_;intro B Zj Zk;refine aS ?_;refine hL (λ_:Option Addr × Nat × List bb=>[(0,ptr g),(3,ptr v),(4,ptr B)]) (λt=>af w (aB (cV ⟨g,A,c,l,most,ids,dir⟩)) (aD B [.int .i64 x.n,.int .i64 0] 35::aD v x.enc 180::cV ⟨g,t.1,t.2.1,t.2.2,most,ids,dir⟩)) (λt=>gv t.2.2∧t.2.2.length≤10000∧t.2.2.map bb.abs=jR x (l.map bb.abs)) ?_ ?_;refine ar ?_;refine b2 (ι:=Option Addr × Nat × List bb) (λ_=>[(0,ptr g),(3,ptr v),(4,ptr B)]) (λt=>af w (aB (cV ⟨g,A,c,l,most,ids,dir⟩)) (aD B [.int .i64 x.n,.int .i64 0] 35::aD v x.enc 180::cV ⟨g,t.1,t.2.1,t.2.2,most,ids,dir⟩)) (λt=>gv t.2.2∧t.2.2.length≤10000∧jR x (t.2.2.map bb.abs)=jR x (l.map bb.abs)) (λt=>t.2.2.length) ?_ ?_;exact λw' M=>⟨(A,c,l),⟨R,by dsimp only;omega,rfl⟩,(em rfl rfl rfl),M⟩
 rintro⟨C,c1,l1⟩ ⟨r,E,F⟩;dsimp only at r E F ⊢
 refine yW (A:=C) (m:=l1.length) (c:=c1) gD (λK=>?_);rcases l1 with _ | ⟨a,_ | ⟨d,l2⟩⟩
 refine aq ?_;refine bF [0,1,2,3,4,5,6,7,8,9,10,11,12,13,14,15,16,17] 2 [[(18,true,[19,20,21,22,23,24,25,26,27,28,29,30,31]),(32,true,[33,34])]] ?_;refine aC ?_;refine aL rfl (λp b=>ge rfl rfl rfl (av) aG) ?_;refine aL rfl (λp b=>ge rfl rfl rfl (av) aG) ?_;refine aL rfl (λp b=>ge rfl rfl rfl (av) aG) ?_;refine aL rfl (λp b=>ge rfl rfl rfl (av) aG) ?_;refine aL rfl (λp b=>ge rfl rfl rfl (av) aG) ?_;refine aL rfl (λp b=>ge rfl rfl rfl (av) aG) ?_;refine aL rfl (λp b=>ge rfl rfl rfl (av) aG) ?_;refine aL rfl (λp b=>ge rfl rfl rfl (av) aG) ?_;refine aL rfl (λp b=>ge rfl rfl rfl (av) aG) ?_;refine aL rfl (λp b=>ge rfl rfl rfl (av) aG) ?_;refine aL rfl (λp b=>ge rfl rfl rfl (av) aG) ?_;refine aq ?_;refine ge rfl rfl rfl (av) ?_;refine b3 (_) (λ_ _=> .inl rfl) (λ_ h=>h) ?_;refine aL rfl (λp b=>(kt rfl rfl av rfl aG)) ?_;refine lV ?_;exact dr (C,c1,[]) ⟨r,E,F⟩ bR (λ_ h=>h);refine aq ?_;refine bF [0,1,2,3,4,5,6,7,8,9,10,11,12,13,14,15,16,17] 2 [[(18,true,[19,20,21,22,23,24,25,26,27,28,29,30,31]),(32,true,[33,34])]] ?_;refine aC ?_;refine aL rfl (λp b=>ge rfl rfl rfl (av) aG) ?_;refine aL rfl (λp b=>ge rfl rfl rfl (av) aG) ?_;refine aL rfl (λp b=>ge rfl rfl rfl (av) aG) ?_;refine aL rfl (λp b=>ge rfl rfl rfl (av) aG) ?_;refine aL rfl (λp b=>ge rfl rfl rfl (av) aG) ?_;refine aL rfl (λp b=>ge rfl rfl rfl (av) aG) ?_;refine aL rfl (λp b=>ge rfl rfl rfl (av) aG) ?_;refine aL rfl (λp b=>ge rfl rfl rfl (av) aG) ?_;refine aL rfl (λp b=>ge rfl rfl rfl (av) aG) ?_;refine aL rfl (λp b=>ge rfl rfl rfl (av) aG) ?_;refine aL rfl (λp b=>ge rfl rfl rfl (av) aG) ?_;refine aq ?_;refine ge rfl rfl rfl (av) ?_;refine b3 (_) (λ_ _=> .inl rfl) (λ_ h=>h) ?_;refine aL rfl (λp b=>(kt rfl rfl av rfl aG)) ?_;refine lV ?_;exact dr (C,c1,[a]) ⟨r,E,F⟩ bR (λ_ h=>h);obtain⟨y,o,O⟩:=K.2.2 av;have Zl:l2.length+2≤c1:=K.1
 subst O;have S:=we a (r a av)
 have T:=we d (r d av)
 have Za:qw a.b_ x=true→eA ⟨x.n,0⟩ d.b_=false→jR x ((d::l2).map bb.abs)=jR x (l.map bb.abs):=λZb Zc=>by
  rw[←F];show _=jR x (a.abs::d.abs::l2.map bb.abs)
  rw[jR,S,T,aw ⟨Zb,Zc⟩];rfl
 have U:qw a.b_ x=false∨eA ⟨x.n,0⟩ d.b_=true→(a::d::l2).map bb.abs=jR x (l.map bb.abs):=λq=>by
  rw[←F];show _=jR x (a.abs::d.abs::l2.map bb.abs)
  rw[jR,S,T,ag (λe=>by rcases q with q | q <;> simp_all)];rfl
 refine Xm nC ?_;refine aq ?_;refine bF [0,1,2,3,4,5,6,7,8,9,10,11,12,13,14,15,16,17] 2 [[(18,false,[19,20,21,22,23,24,25,26,27,28,29,30,31]),(32,false,[33,34])]] ?_;refine aC ?_;refine aL rfl (λp b=>cC rfl rfl ((by simp;omega)) (ig rfl rfl aG)) ?_;refine aL rfl (λp b=>cC rfl rfl ((by simp;omega)) (nA rfl rfl aG)) ?_;refine aL rfl (λp b=>cC rfl rfl ((by simp;omega)) (nk Mw rfl rfl aG)) ?_;refine aL rfl (λp b=>cC rfl rfl ((by simp;omega)) (a_ mK rfl rfl (λI D=>by subst D;exact b.eP kz rfl) aG)) ?_;refine aL rfl (λp b=>cC rfl rfl ((by simp;omega)) (bC (q:=0) k7 rfl rfl rfl rfl rfl (by show 0<l2.length+1+1;omega) aG)) ?_;refine aL rfl (λp b=>cC rfl rfl ((by simp;omega)) (a_ np rfl rfl (λI D=>by subst D;exact od (b.has e4) (k:=0) (e:=a) rfl) aG)) ?_;refine aL rfl (λp b=>cC rfl rfl ((by simp;omega)) (nA rfl rfl aG)) ?_;refine aL rfl (λp b=>cC rfl rfl ((by simp;omega)) (nk Mz rfl rfl aG)) ?_;refine aL rfl (λp b=>cC rfl rfl ((by simp;omega)) (ds (q:=0) underlying192 mL rfl rfl rfl bc aa aG)) ?_;refine aL rfl (λp b=>cC rfl rfl ((by simp;omega)) (cx eg rfl rfl rfl (λI D j u P=>by subst D;exact b.k6 (sz:=2) aT rfl j u P) aG)) ?_;refine aL rfl (λp b=>cC rfl rfl ((by simp;omega)) (cx zG rfl rfl rfl (λI D j u P=>by subst D;exact b.k6 (sz:=3) hM rfl j u P) aG)) ?_;refine aq ?_;refine cC rfl rfl ((by simp;omega)) ?_;refine ao rfl zX rfl (λJ V=>CM J a.b_ x) ?_;refine b3 (_) (λ_ h=> .inr h) (λ_ h=>h) ?_;refine aL rfl (λp b=>(zt rfl rfl (by simp;omega) rfl aG)) ?_;refine ar ?_;refine ny 30 rfl (λG=>?_) (λG=>?_);have Zd:=aX G
 refine ay ?_;refine aL rfl (λp b=>cC rfl rfl (G) (bC (q:=1) k7 rfl rfl rfl rfl rfl (by show 1<l2.length+1+1;omega) aG)) ?_;refine aL rfl (λp b=>cC rfl rfl (G) (a_ np rfl rfl (λI D=>by subst D;exact od (b.has e4) (k:=1) (e:=d) rfl) aG)) ?_;refine aq ?_;refine aL rfl (λp b=>cC rfl rfl (G) (ds (q:=0) underlying192 mL rfl rfl rfl bc aa aG)) ?_;refine aS ?_;refine ao rfl uJ rfl (λJ V=>vY J ⟨x.n,0⟩ d.b_) ?_;refine b3 (λ_=>True) (λ_ h=> .inr ⟨.inr h,h⟩) (λ_ h=>a1) ?_;refine ay ?_;refine b1 rfl (λaH=>?_) (λaH=>?_);simp only[bZ] at aH
 refine aJ ?_;refine fz 1 (l2.length+2) k7 rfl rfl (.inl ⟨_,_,rfl,rfl,rfl⟩) (.inr ⟨rfl,rfl⟩) aa aa ?_;rw[ag (show ¬c1=1 by omega)];refine CR (c:=et (some ⟨y,o,none⟩) c1 (a::d::l2)) (c':=et ((some ⟨y,o,none⟩ :Option Addr).map (·.add (1*1))) (c1 - 1) (d::l2)) uU (J7 _ _ _ _ _ _ _ _ _ _) (λw h=>Kj av h) ?_;refine ay ?_;exact bi ((some ⟨y,o,none⟩ :Option Addr).map (·.add (1*1)),c1 - 1,d::l2) ⟨λe H=>r e (ur _ H),Nat.le_of_succ_le E,Za G aH⟩ (Nat.lt_succ_self _) (em rfl rfl rfl) (λ_ h=>((h.ax (l:=[d.an,eW l2,aD B _ 35,aD v _ 180,aD g _ 164,et ((some ⟨y,o,none⟩ :Option Addr).map (·.add (1*1))) (c1 - 1) (d::l2)]) ae).C9).ax ae);simp only[bZ] at aH
 refine aS ?_;exact dr (some ⟨y,o,none⟩,c1,a::d::l2) ⟨r,E,U (.inr aH)⟩ (em rfl rfl rfl) (λ_ h=>(af.Kq (h.ax (l:=[a.an,d.an,eW l2,aD B _ 35,aD v _ 180,aD g _ 164,et (some ⟨y,o,none⟩) c1 (a::d::l2)]) ae)).ax ae);have Zd:=bd G
 refine b7 ?_;refine b3 (λ_=>True) (λ_ h=> .inr ⟨.inr h,h⟩) (λ_ h=>a1) ?_;refine aQ ?_;exact dr (some ⟨y,o,none⟩,c1,a::d::l2) ⟨r,E,U (.inl G)⟩ (em rfl rfl rfl) (λ_ h=>(af.Kq (h.ax (l:=[a.an,d.an,eW l2,aD B _ 35,aD v _ 180,aD g _ 164,et (some ⟨y,o,none⟩) c1 (a::d::l2)]) ae)).ax ae);rintro⟨C,c1,l1⟩ ⟨r,E,F⟩;dsimp only at r E F ⊢
 refine bx ?_;refine b2 (ι:=Nat) (λi=>[(3,ptr v),(56,.slice C l1.length c1),(57,.int .i64 (l1.length:Int)),(58,.int .i64 (i:Int))]) (λi=>af w (aB (cV ⟨g,A,c,l,most,ids,dir⟩)) [aD B [.int .i64 x.n,.int .i64 0] 35,aD v x.enc 180,aD g [.slice C l1.length c1,.int .i64 most,.int .u64 ids,.string (bs dir)] 164,et C c1 l1,eW (iZ (kY x) l1 i)]) (λi=>i≤l1.length) (λi=>l1.length - i) ?_ ?_;exact λw' M=>⟨0,bP _,(cj rfl rfl rfl rfl),by rw[Kn];exact M⟩
 intro i hi;refine yW (A:=C) (m:=l1.length) (c:=c1) gD (λK=>?_);refine al ?_;refine aj (λZe=>?_) (λZe=>?_);obtain⟨e,H⟩ : ∃e,l1[i]? = some e:=⟨_,bE aa⟩;obtain⟨y,o,O⟩:=K.2.2 aa;subst O;have Zf:e.cut=true→(kY x e).an=aD e.g ((kX e).set 2 (.bool true)) 194:=λh=>by simp[bb.an,kY,h]
 have Zg:e.cut=false→(kY x e).an=aD e.g ((kX e).set 2 (.bool (qw e.b_ x))) 194:=λh=>by simp[bb.an,kY,h]
 refine CS (L:=(iZ (kY x) l1 i).map bb.an) (c:=e.an) (k:=i) nC (by rw[eD,C8 H];rfl) ?_;refine al ?_;refine bC (q:=i) k7 rfl rfl rfl rfl rfl aa ?_;refine a_ np rfl rfl (λI r=>od (r.has kz) H) ?_;refine ah ?_;refine bF [0,1,2,3,4,5,6,7,8,9,10,11,12] 2 [[(13,false,[14,15,16,17]),(18,true,[])]] ?_;refine aC ?_;refine ny 68 rfl (λW=>?_) (λW=>?_);refine lV ?_;exact bi (i+1) aa aa (cj rfl rfl rfl rfl) (λ_ h=>(af.C_ (z:=kY x e) ((Zf bv).symm▸(h.ax (l:=[aD e.g _ 194,aR (((iZ (kY x) l1 i).map bb.an).eraseIdx i),aD B _ 35,aD v _ 180,aD g _ 164,et (some ⟨y,o,none⟩) c1 l1]) ae)) H rfl).ax ae);refine ah ?_;refine aL rfl (λp b=>cC rfl rfl (W) (ds (q:=0) underlying192 mL rfl rfl rfl bc aa aG)) ?_;refine ay ?_;refine ao rfl zX rfl (λJ V=>CM J e.b_ x) ?_;refine ey ?_;exact bi (i+1) aa aa (cj rfl rfl rfl rfl) (λ_ h=>(af.C_ (z:=kY x e) ((Zg bv).symm▸(h.ax (l:=[aD e.g _ 194,aR (((iZ (kY x) l1 i).map bb.an).eraseIdx i),aD B _ 35,aD v _ 180,aD g _ 164,et (some ⟨y,o,none⟩) c1 l1]) ae)) H rfl).ax ae);refine ay ?_;intro Zm X;refine aP.bQ (C,c1,l1.map (kY x)) ⟨λe H=>by obtain⟨d,ak,rfl⟩:=dH.1 H;exact r d ak,by dsimp only;rw[Xk x r,F]⟩ rfl ?_;rw[Ko aa] at X
 simp only[cV,cO.an,rR,Kp (f:=kY x) (λ_=>rfl),cB];exact X.ax ae
end
theorem Xp {P:Program} {n:Nat} {ops:Array Oper} {Q:cq} {rest:List Oper} {l:Fr} {d:Nat} {ty:TypeId} {pos:String} {a7:Array Edge} {H:World→Prop} {x i:Operand} {t e sz a:Nat} {z:List Value} {g o m c q:Nat} {k:IntKind} {j:Int} (b:c6 P t e sz a z) (ak:Nat.blt d n=true) (f:ba l x=some (.slice (some ⟨g,o,none⟩) m c)) (hi:ba l i=some (.int k j))
 (p:j=(q:Int)) (r:q<m) (h:az P n ops Q rest ((d,.pointer (some ⟨g,o+q*sz,none⟩))::l) H):az P n ops Q (⟨some d,.indexAddr t x i,ty,pos,a7,none⟩::rest) l H:=
 bC b ak f hi rfl p r (by rw[Addr.add_lit];exact h)
def qB (x:eh):Nat→bb→bb
 | 0,e=>e
 | j+1,e=>(qB x j e).set j (lA (e.at_ j) x)
theorem Da (x:eh) (e:bb): ∀j,(qB x j e).g=e.g
 | 0=>rfl
 | j+1=>by rw[qB,Kg,Da x e j]
theorem Xq (x:eh) (e:bb) {j:Nat} (h:j<4): (qB x j e).at_ j=e.at_ j:=by
 match j,h with
 | 0,_=>rfl
 | 1,_=>rfl
 | 2,_=>rfl
 | 3,_=>rfl
def nc (x:eh) (e:bb):bb:=qB x e.br e
theorem Kr (x:eh) {e:bb} (h:1≤e.br∧e.br≤4): (nc x e).abs=v_ x e.abs∧(nc x e).br=e.br:=by
 obtain⟨g,code,has,cut,dir,line,id,b_,dP,gk,m8,br⟩:=e;match br,h with
 | 1,_=>exact⟨rfl,rfl⟩
 | 2,_=>exact⟨rfl,rfl⟩
 | 3,_=>exact⟨rfl,rfl⟩
 | 4,_=>exact⟨rfl,rfl⟩
 | n+5,h=>exact absurd h.2 (by show ¬n+5≤4;omega)
 | 0,h=>exact absurd h.1 (by show ¬1≤0;decide)
theorem Xr (x:eh) {l:List bb} (h:gv l): (l.map (nc x)).map bb.abs=(l.map bb.abs).map (v_ x):=by
 rw[mC,mC];exact uq (λe a=>(Kr x (h e a)).1)
theorem Xs (x:eh) {l:List bb} (h:gv l):gv (l.map (nc x)):=λe a=>by
 obtain⟨d,ak,rfl⟩:=dH.1 a;rw[(Kr x (h d ak)).2];exact h d ak
structure wk (s:cO) (N:Int) (x:eh) (z:cO):Prop where
 g:z.g=s.g
 ok:fP z N
 abs:z.abs=rQ s.abs x
theorem wk.of {s z:cO} {N:Int} {x:eh} (b:fP s N) (c:z.g=s.g) (ai:gv z.l) (a:z.abs=rQ s.abs x):wk s N x z:=⟨c,⟨a▸WU b.wf x,ai⟩,a⟩
def Xt (s:cO) (N:Int) (x:eh) (w:World):Ending→World→Prop:=aP (λ_:cO=> .tuple #[]) (cV s) cV (wk s N x) w
theorem Xu (w:World) (s:cO) (M:a8 w (cV s)) {N:Int} (n:fP s N) (x:eh):Calls prog 74 [ptr s.g,rN x].toArray w (Xt s N x w):=by
 have O:=n.len
 have D:=n.br
 obtain⟨g,A,c,l,most,ids,dir⟩:=s;dsimp only at O D
 refine bI func74 ntmps74 M ?_;refine ah ?_;intro d Za Zb;refine bp ?_;refine ao rfl wZ rfl (λb p=>yU b x) ?_;refine ay ?_;refine b1 rfl (λr=>?_) (λr=>?_);have E: ¬dZ x:=λh=>by rw[bX h] at r;exact absurd r aZ
 refine ah ?_;intro P y;exact aP.bQ ⟨g,A,c,l,most,ids,dir⟩ (wk.of n rfl D (by unfold rQ;rw[aw E])) rfl (y.ax (aA.cons cw (aA.cons cw (aA.cons cw aA.nil))));have E: ¬¬dZ x:=λh=>by rw[cg h] at r;exact absurd r aZ
 refine aQ ?_;refine hL (λ_:Option Addr × Nat × List bb=>[(0,ptr g),(3,ptr d)]) (λt=>af w (aB (cV ⟨g,A,c,l,most,ids,dir⟩)) (aD d x.enc 180::cV ⟨g,t.1,t.2.1,t.2.2,most,ids,dir⟩)) (λt=>gv t.2.2∧t.2.2.map bb.abs=(if x.kind=2 then (jR x (l.map bb.abs)).map (rP x) else l.map bb.abs)) ?_ ?_;refine pH rfl (λF=>?_) (λF=>?_);refine ah ?_;refine a6 (l0:=cV ⟨g,A,c,l,most,ids,dir⟩) (aA.cons cw (aA.cons cw (aA.cons cw aA.nil))) rfl Nz rfl (λb p=>Xo b ⟨g,A,c,l,most,ids,dir⟩ (p.bo (aA.cons cw (aA.cons cw (aA.cons cw aA.nil)))) n x) (λt K=>?_);refine ar ?_;exact dr t ⟨K.1,by rw[aw F];exact K.2⟩ (iK rfl rfl) (λ_ h=>h.ax (aA.cons oO (aA.cons bj (aA.cons bj (aA.cons bj aA.nil)))));refine ar ?_;exact dr (A,c,l) ⟨D,by rw[ag F]⟩ (iK rfl rfl) (λ_ h=>h.ax (aA.cons bj (aA.cons bj (aA.cons bj (aA.cons bj aA.nil)))));rintro⟨v,c1,l1⟩ ⟨a,G⟩;dsimp only at a G ⊢
 have Zc:l1.length≤10000:=by
  have B:=aU List.length G
  have Q:=(CX x (l.map bb.abs)).length_le
  rw[cB] at B Q
  split at B
  rw[cB] at B;omega
  rw[cB] at B;omega
 refine bx ?_;refine b2 (ι:=Nat) (λi=>[(3,ptr d),(25,.slice v l1.length c1),(26,.int .i64 (l1.length:Int)),(27,.int .i64 (i:Int))]) (λi=>af w (aB (cV ⟨g,A,c,l,most,ids,dir⟩)) [aD d x.enc 180,aD g [.slice v l1.length c1,.int .i64 most,.int .u64 ids,.string (bs dir)] 164,et v c1 l1,eW (iZ (nc x) l1 i)]) (λi=>i≤l1.length) (λi=>l1.length - i) ?_ ?_;exact λw' H=>⟨0,bP _,(cj rfl rfl rfl rfl),by rw[Kn];exact H⟩
 intro i hi;refine yW (A:=v) (m:=l1.length) (c:=c1) cr (λR=>?_);refine al ?_;refine pH rfl (λS=>?_) (λS=>?_);obtain⟨e,C⟩ : ∃e,l1[i]? = some e:=⟨_,bE aa⟩;obtain⟨I,o,T⟩:=R.2.2 aa;have U:=a e (da C)
 subst T;refine CS (L:=(iZ (nc x) l1 i).map bb.an) (c:=e.an) (k:=i) oO (by rw[eD,C8 C];rfl) ?_;refine al ?_;refine bC (q:=i) k7 rfl rfl rfl rfl rfl aa ?_;refine a_ np rfl rfl (λV a=>od (a.has hM) C) ?_;refine al ?_;refine ao rfl wW rfl (λb p=>y0 b e (p.has aT) U.2) ?_;refine bp ?_;refine b2 (ι:=Nat) (λj=>[(3,ptr d),(25,.slice (some ⟨I,o,none⟩) l1.length c1),(26,.int .i64 (l1.length:Int)),(27,.int .i64 (i:Int)),(6,.slice (some ⟨e.g,6,none⟩) e.br 4),(33,.slice (some ⟨e.g,6,none⟩) e.br 4),(34,.int .i64 (e.br:Int)),(35,.int .i64 (j:Int))]) (λj=>af w (aB (cV ⟨g,A,c,l,most,ids,dir⟩)) [aD e.g (kX (qB x j e)) 194,aR (((iZ (nc x) l1 i).map bb.an).eraseIdx i),aD d x.enc 180,aD g [.slice (some ⟨I,o,none⟩) l1.length c1,.int .i64 most,.int .u64 ids,.string (bs dir)] 164,et (some ⟨I,o,none⟩) c1 l1]) (λj=>j≤e.br) (λj=>e.br - j) ?_ ?_;exact λw' H=>⟨0,bP _,(xn rfl rfl rfl rfl rfl rfl rfl rfl),H⟩
 intro j Zd;refine al ?_;refine pH rfl (λW=>?_) (λW=>?_);have J:j<4:=by omega
 have X:=Xq x e J
 refine aC ?_;refine bC (q:=j) dD rfl rfl rfl rfl rfl aa ?_;refine cx (vs:=(e.at_ j).enc) eg rfl rfl rfl (λV a k u Y=>by rw[Addr.add_lit,Addr.add_lit];exact a.eP Has.head (CZ (qB x j e) j J k u (by rw[X];exact Y))) ?_;refine ar ?_;intro Ze Zf Zg;refine aJ ?_;refine ao rfl zW rfl (λb p=>CN b (e.at_ j) x) ?_;refine Xp (q:=j) dD rfl rfl rfl rfl aa ?_;refine e3 (g:=e.g) (o:=6+j*2) (vs:=(lA (e.at_ j) x).enc) (xs:=kX (qB x j e)) (te:=194) eg rfl rfl (by rw[Kf _ _ _ J];exact ew) rfl (xm rfl rfl) (by show 6+j*2+2≤15;omega) ?_;refine aC ?_;exact bi (j+1) aa aa (xn rfl rfl rfl rfl rfl rfl rfl rfl) (λ_ h=>h.ax (aA.cons cw (aA.cons cw (aA.cons cw (aA.cons cw (aA.cons cw aA.nil))))));have Z:j=e.br:=by omega
 subst Z;refine aQ ?_;exact bi (i+1) aa aa (cj rfl rfl rfl rfl) (λ_ h=>(af.C_ (z:=nc x e) (by rw[bb.an,show (nc x e).g=e.g from Da x e _];exact h.ax (aA.cons bj (aA.cons bj (aA.cons bj (aA.cons bj (aA.cons bj aA.nil)))))) C rfl).ax (aA.cons cw (aA.cons cw (aA.cons cw (aA.cons bj aA.nil)))));refine ay ?_;intro P y;refine aP.bQ ⟨g,v,c1,l1.map (nc x),most,ids,dir⟩ (wk.of n rfl (Xs x a) ?_) rfl ?_;unfold rQ;rw[ag E];show (⟨_,_,_,_⟩ :e8)=⟨_,_,_,_⟩;rw[Xr x a,G];rfl
 rw[Ko aa] at y;simp only[cV,cO.an,rR,Kp (f:=nc x) (λe=>Da x e _),cB];exact y.ax (aA.cons cw (aA.cons cw (aA.cons cw aA.nil)))
theorem Ks {w:World} {e:bb} (d:e.an.pred w) (ai:e.br≤4):Rd cf w (λk=>k=e.g) (some ⟨e.g,6,none⟩) e.br 4 e.pl:=by
 refine⟨lE e ai,ai,aZ,λ_=>⟨_,rfl,rfl,λk a j u b f=>?_⟩⟩;have c:=(cK.1 b).1
 rw[lE e ai] at c
 rw[wc e ai c] at b
 cases b
 have h:w.heap[e.g]? = some (.cells (kX e).toArray 194 (0,0)):=d
 rw[Addr.add_lit,Addr.add_lit,cell_of_row w e.g _ _ _ (0,0) h];have:=CZ e k aa j u f
 simpa [show cf.sz=2 from rfl] using this
theorem Kt {l:List bb}:wa (l.map bb.abs)=l.flatMap bb.pl:=by
 unfold wa;rw[List.flatMap_map];rfl
theorem Ku {l:List bb} (h:gv l) (i:Nat): ((l.take i).flatMap bb.pl).length≤4*i:=by
 induction i with
 | zero=>simp
 | succ i a=>
  rw[fR,un,b6];cases hi:l[i]? with
  | none=>simp only[Option.toList_none,r5,lL];omega
  | some e=>
   have:=(h e (da hi)).2
   have b:=lE e this
   simp only[pB,jX,r5,eu];omega
theorem Db (w:World) (s:cO) (u:s.an.pred w) (ai: (et s.A s.c s.l).pred w) (n: (eW s.l).pred w) (b:gv s.l) (M:s.l.length≤10000):Calls prog 47 [ptr s.g].toArray w
 (aP (λz:ee=>z.val) [] (λz=>[z.au]) (λz=>z.l=wa s.abs.blocks) w):=by
 have v:=yV ai
 have y:=Kt (l:=s.l)
 refine aV func47 ntmps47 ?_;refine lV ?_;refine a_ mK rfl rfl (λN B=>B.bU u (by (simp;done)) rfl) ?_;refine aS ?_;refine cH (H':=af w [] [ee.au ⟨none,0,[]⟩]) ?_ (Sub.refl _) (λx C=>C.eU 35 cf);refine ar ?_;refine b2 (ι:=Nat × ee) (λt=>[(3,t.2.val),(11,.slice s.A s.l.length s.c),(12,.int .i64 (s.l.length:Int)),(13,.int .i64 (t.1 :Int))]) (λt=>af w [] [t.2.au]) (λt=>t.1≤s.l.length∧t.2.l=(s.l.take t.1).flatMap bb.pl) (λt=>s.l.length - t.1) ?_ ?_;exact λw' f=>⟨(0,⟨none,0,[]⟩),⟨bP _,rfl⟩,(cj rfl rfl rfl rfl),f⟩
 rintro⟨i,z⟩ ⟨hi,d⟩;dsimp only at hi d ⊢
 have D:=Ku b i
 rw[←d] at D
 refine al ?_;refine aj (λG=>?_) (λG=>?_);obtain⟨e,j⟩ : ∃e,s.l[i]? = some e:=⟨_,bE aa⟩;have a:=da j
 obtain⟨O,o,p⟩:=v.2.2 aa;have r:=ai
 rw[p] at r
 have H: (s.l.take (i+1)).flatMap bb.pl=z.l++e.pl:=by rw[fR,j,un,d];simp
 refine al ?_;refine bC (q:=i) k7 rfl rfl rfl p rfl aa ?_;refine a_ np rfl rfl (λP I=>I.cu (od r j) av) ?_;refine al ?_;refine ao rfl wW rfl (λJ K=>y0 J e (K.dF (mu n a) av) (b e a).2) ?_;refine rn (E:=cf) (src:=e.pl) (m:=z.l.length) (xs:=cf.all z.l) (F:=λk=>k=e.g) (z.l++e.pl).length (by rw[b6,lE e (b e a).2]) dD rfl rfl rfl (λ_=>by exact cA) (λw' f=>(Ks (mu n a) (b e a).2).ext f.ext av) (by simp only[maxLen];have:=(b e a).2;omega) (by have:=(b e a).2;omega) (λdG c9=>?_);refine aK ?_;exact bi (i+1,⟨dG,c9,z.l++e.pl⟩) ⟨aa,H.symm⟩ bm bR (λw' h=>(show af w [] [own 35 cf.sz (.slice dG (z.l++e.pl).length c9) (z.l++e.pl).length (cf.all (z.l++e.pl))] w' from bA.all_append cf z.l e.pl▸h).ax ae);refine bH ?_;intro Q L;exact aN z (by rw[d,ev aa];exact y.symm) L
structure lF (e z:bb):Prop where
 g:z.g=e.g
 br:z.br=e.br
 id:z.id=e.id
 dir:z.dir=e.dir
 line:z.line=e.line
 pos: (∀k,k<e.br→eq (e.at_ k))→ ∀k,k<e.br→eq (z.at_ k)
theorem lF.refl (e:bb):lF e e:=⟨rfl,rfl,rfl,rfl,rfl,λh=>h⟩
theorem lF.trans {a b c:bb} (h:lF a b) (k:lF b c):lF a c:=⟨k.g.trans h.g,k.br.trans h.br,k.id.trans h.id,k.dir.trans h.dir,k.line.trans h.line,λq i hi=>k.pos (λj d=>h.pos q j (h.br▸d)) i (h.br.symm▸hi)⟩
theorem Xv (e:bb) (P:List aY) (ai:P.length≤e.br) (j:e.br≤4) (g: ∀p∈P,eq p): ∃z,lF e z∧df (kX e) 6 (cf.all P)=kX z:=by
 rcases P with _ | ⟨a,_ | ⟨b,_ | ⟨c,_ | ⟨d,_ | ⟨f,P⟩⟩⟩⟩⟩
 exact⟨e,lF.refl e,rfl⟩;refine⟨{ e with b_:=a },⟨rfl,rfl,rfl,rfl,rfl,λh k i=>?_⟩,rfl⟩;match k,(show k<4 by omega) with
 | 0,_=>exact g a av
 | 1,_=>exact h 1 i
 | 2,_=>exact h 2 i
 | 3,_=>exact h 3 i
 refine⟨{ e with b_:=a,dP:=b },⟨rfl,rfl,rfl,rfl,rfl,λh k i=>?_⟩,rfl⟩;match k,(show k<4 by omega) with
 | 0,_=>exact g a av
 | 1,_=>exact g b av
 | 2,_=>exact h 2 i
 | 3,_=>exact h 3 i
 refine⟨{ e with b_:=a,dP:=b,gk:=c },⟨rfl,rfl,rfl,rfl,rfl,λh k i=>?_⟩,rfl⟩;match k,(show k<4 by omega) with
 | 0,_=>exact g a av
 | 1,_=>exact g b av
 | 2,_=>exact g c av
 | 3,_=>exact h 3 i
 refine⟨{ e with b_:=a,dP:=b,gk:=c,m8:=d },⟨rfl,rfl,rfl,rfl,rfl,λh k i=>?_⟩,rfl⟩;match k,(show k<4 by omega) with
 | 0,_=>exact g a av
 | 1,_=>exact g b av
 | 2,_=>exact g c av
 | 3,_=>exact g d av
 simp only[eO] at ai;omega
structure km (l M:List bb):Prop where
 len:M.length=l.length
 at_: ∀(k:Nat) (e z:bb),l[k]? = some e→M[k]? = some z→lF e z
theorem km.refl (l:List bb):km l l:=⟨rfl,λk e z b a=>by rw[b] at a;cases a;exact lF.refl e⟩
theorem km.get {l M:List bb} (h:km l M) {k:Nat} {e:bb} (b:l[k]? = some e): ∃z,M[k]? = some z∧lF e z:=by
 have a:=(cK.1 b).1
 rw[←h.len] at a
 exact⟨M[k],bE a,h.at_ k e _ b (bE a)⟩
theorem km.map {l M:List bb} {α:Type} (h:km l M) (f:bb→α) (b: ∀e z,lF e z→f z=f e):M.map f=l.map f:=by
 apply mz
 intro k;rw[eD,eD];cases a:l[k]? with
 | none=>rw[kq (by rw[h.len];exact List.getElem?_eq_none_iff.1 a)]
 | some e=>
  obtain⟨z,c,ai⟩:=h.get a;rw[c];exact aU some (b e z ai)
theorem km.set {l M:List bb} (h:km l M) {i:Nat} {e z:bb} (f:M[i]? = some e) (g:lF e z):km l (M.set i z):=by
 refine⟨by rw[gc];exact h.len,λk a b d c=>?_⟩;rw[om] at c
 split at c
 rename_i j;subst j;split at c
 cases c
 exact (h.at_ i a e d f).trans g;cases c
 exact h.at_ k a b d c
theorem Kv {e:bb} (h:e.br≤4): (∀p∈e.pl,eq p)↔ ∀k,k<e.br→eq (e.at_ k):=by
 constructor
 exact λai k a=>ai _ (da (wc e h a))
 intro ai p c;obtain⟨k,a⟩:=qK c;have b:=(cK.1 a).1
 rw[lE e h] at b
 rw[wc e h b] at a
 cases a
 exact ai k b
theorem km.ok {s:cO} {N:Int} {M:List bb} (h:km s.l M) (a:fP s N):fP { s with l:=M } N:=by
 have j:gv M:=λz d=>by
  obtain⟨k,g⟩:=qK d;have b:=(cK.1 g).1
  rw[h.len] at b
  have:=h.at_ k _ z (bE b) g
  rw[this.br];exact a.br _ (r9 b)
 refine⟨⟨a.wf.most,?_,a.wf.ids,?_,?_,a.wf.dir⟩,j⟩;have:=a.wf.len
 simp only[cO.abs,cB] at this ⊢
 rw[h.len];exact this
 intro x m;obtain⟨z,d,rfl⟩:=dH.1 m;obtain⟨k,g⟩:=qK d;have b:=(cK.1 g).1
 rw[h.len] at b
 have c:=h.at_ k _ z (bE b) g
 have f:=a.wf.gO _ (dH.2 ⟨_,r9 b,rfl⟩)
 have n:=a.br _ (r9 b)
 have i:=j z d
 refine⟨?_,?_,?_,?_⟩;show 1≤z.pl.length∧z.pl.length≤4
 rw[lE z i.2];exact i
 exact (Kv i.2).2 (c.br▸c.pos ((Kv n.2).1 f.pos));show 1≤z.id∧z.id≤s.ids
 rw[c.id];exact f.id
 show z.dir.length≤256∧z.line.length≤256
 rw[c.dir,c.line];exact f.oc
 have c:=a.wf.qz
 have f: ((s.l.map bb.abs).map (·.id)).Pairwise (· < ·):=qL.2 c
 rw[mC,show ((λx=>x.id) ∘ bb.abs)=bb.id from rfl,←h.map bb.id (λe z d=>d.id)] at f
 show (M.map bb.abs).Pairwise _
 rw[qL];exact qL.1 f
theorem km.et {l M:List bb} (h:km l M) (A:Option Addr) (c:Nat):et A c M=et A c l:=by
 show gL _ _ _ M.length _ (jT.all (M.map bb.g))=_
 rw[h.len,h.map bb.g (λe z a=>a.g)]
def Xw (s:cO) (N:Int) (w:World):Ending→World→Prop:=aP (λi:Int × cO=> .int .i64 i.1) (cV s) (λi=>cV i.2) (λi=>i.2.g=s.g∧i.2.most=s.most∧fP i.2 N) w
theorem Kw {p:Prop} [Decidable p] (h: (!decide p)=false):p:=by simpa using h
structure Xx where
 i:Nat
 M:List bb
 A:Option Addr
 m:Nat
 c:Nat
 L:List aY
theorem Xy (w:World) (s:cO) (Ze:a8 w (cV s)) {N:Int} (x:fP s N) (A:Option Addr) (n c0:Nat) (L:List aY) (H:Rd cf w (λk=>k∉aB (cV s)) A n c0 L) (Zt:n≤1000000):Calls prog 50 [ptr s.g,.slice A n c0].toArray w (Xw s N w):=by
 have Zu:=x.len
 have S:=x.br
 have Zv:=H.len
 refine bI func50 ntmps50 Ze ?_;refine eR ?_;refine a6 (l0:=[]) aA.nil rfl zN rfl (λb d=>Db b s (d.has aT) (d.has bJ) (d.has cr) S aa) (λZw Zx=>?_);refine aC ?_;refine pH rfl (λZf=>?_) (λZf=>?_);refine aK ?_;intro I a;exact aP.bQ (1,s) ⟨rfl,rfl,x⟩ rfl (a.ax (aA.cons cw (aA.cons cw (aA.cons cw aA.nil))));refine bp ?_;refine b2 (ι:=Nat) (λi=>[(0,ptr s.g),(1,.slice A n c0),(20,.slice A n c0),(21,.int .i64 (n:Int)),(22,.int .i64 (i:Int))]) (λ_=>af w (aB (cV s)) (cV s)) (λi=>i≤n∧ ∀k p,k<i→L[k]? = some p→dk p) (λi=>n - i) ?_ ?_;exact λw' C=>⟨0,⟨bP _,λk p y=>absurd y (Nat.not_lt_zero k)⟩,(ec rfl rfl rfl rfl rfl),C.ax (aA.cons cw (aA.cons cw (aA.cons cw aA.nil)))⟩
 rintro i ⟨hi,T⟩;refine al ?_;refine pH rfl (λZg=>?_) (λZg=>?_);obtain⟨v,U⟩ : ∃v,L[i]? = some v:=⟨L[i]'aa,bE _⟩;obtain⟨v2,Zh⟩ : ∃v2,0<i→L[i - 1]? = some v2:=⟨(L[i - 1]?).getD ⟨0,0⟩,λh=>by rw[bE aa];rfl⟩;obtain⟨bY,V,W,X⟩:=H.cells aa;have Y:dk v→ ∀k p,k<i+1→L[k]? = some p→dk p:=λh k p y ai=>by
  rcases Nat.lt_succ_iff_lt_or_eq.1 y with f | f
  exact T k p f ai;rw[f,U] at ai;cases ai;exact h
 refine aC ?_;refine bC (q:=i) dD rfl rfl rfl V rfl aa ?_;refine cx (vs:=v.enc) eg rfl rfl rfl (λJ f j u D=>f.cu (X i v j u U D) (by simp only[block_add];exact W)) ?_;refine ar ?_;intro Zy Zz ZA;refine ay ?_;refine eF [0] 2 [[(1,false,[2,3,4,5,6,7,8,9,10,11,12]),(13,false,[14,15])]] (_) mixed ab (λ_ a=>a.drew) (λ_ h=>h) ?_;refine ah ?_;refine ao rfl zS rfl (λb d=>C1 b v) ?_;refine b3 (_) (λ_ h=> .inr h) (λ_ h=>h) ?_;refine aq ?_;refine ny 30 rfl (λZi=>?_) (λZi=>?_);refine bx ?_;refine b3 (λ_=>True) (λ_ h=> .inr ⟨.inr h,h⟩) (λ_ h=>a1) ?_;refine eR ?_;intro I a;exact aP.bQ (1,s) ⟨rfl,rfl,x⟩ rfl (a.ax (aA.cons cw (aA.cons cw (aA.cons cw aA.nil))));refine ah ?_;refine ny 33 rfl (λaH=>?_) (λaH=>?_);have Zj:=aX aH
 refine aS ?_;refine aL rfl (λZk Z=>cC rfl rfl (aH) (bC (q:=i - 1) dD rfl rfl rfl V aa aa aG)) ?_;refine aL rfl (λZk Z=>cC rfl rfl (aH) (cx (vs:=v2.enc) eg rfl rfl rfl (λJ Zl j u D=>by subst Zl;exact Z.cu (X (i - 1) v2 j u (Zh aa) D) (by simp only[block_add];exact W)) aG)) ?_;refine aq ?_;refine cC rfl rfl (aH) ?_;refine ao rfl uJ rfl (λb d=>vY b v v2) ?_;refine b3 (λ_=>True) (λ_ h=> .inr ⟨.inr h,h⟩) (λ_ h=>a1) ?_;refine ay ?_;refine pH rfl (λZm=>?_) (λZm=>?_);refine bx ?_;intro I a;exact aP.bQ (1,s) ⟨rfl,rfl,x⟩ rfl (a.ax (aA.cons cw (aA.cons cw (aA.cons cw aA.nil))));refine aC ?_;exact bi (i+1) ⟨aa,Y (Kw bv)⟩ aa (ec rfl rfl rfl rfl rfl) (λ_ h=>h.ax (aA.cons cw (aA.cons cw (aA.cons cw aA.nil))));have Zj:=bd aH
 refine aK ?_;refine ge rfl rfl rfl (aH) ?_;refine b3 (λ_=>True) (λ_ h=> .inr ⟨.inr h,h⟩) (λ_ h=>a1) ?_;refine bH ?_;exact bi (i+1) ⟨aa,Y (Kw bv)⟩ aa (ec rfl rfl rfl rfl rfl) (λ_ h=>h.ax (aA.cons cw (aA.cons cw (aA.cons cw aA.nil))));have ZB:i=n:=by omega
 have Zn: ∀p∈L,dk p:=λp ai=>by
  obtain⟨k,y⟩:=qK ai;have:=(cK.1 y).1
  exact T k p aa y
 refine ey ?_;refine b2 (ι:=Xx) (λt=>[(1,.slice t.A t.m t.c),(47,.slice s.A s.l.length s.c),(48,.int .i64 (s.l.length:Int)),(49,.int .i64 (t.i:Int))]) (λt=>af w (aB (cV s)) [s.an,et s.A s.c s.l,eW t.M]) (λt=>t.i≤s.l.length∧km s.l t.M∧Rd cf w (λk=>k∉aB (cV s)) t.A t.m t.c t.L∧ ∀p∈t.L,dk p) (λt=>s.l.length - t.i) ?_ ?_;exact λw' C=>⟨⟨0,s.l,A,n,c0,L⟩,⟨bP _,km.refl _,H,Zn⟩,(cj rfl rfl rfl rfl),C.ax (aA.cons bj (aA.cons bj (aA.cons bj aA.nil)))⟩
 rintro⟨j,M,ZC,m,c1,K⟩ ⟨D,B,G,O⟩;dsimp only at D B G O ⊢
 refine yW (A:=s.A) (m:=s.l.length) (c:=s.c) bJ (λZo=>?_);refine al ?_;refine pH rfl (λZp=>?_) (λZp=>?_);obtain⟨e,P⟩ : ∃e,s.l[j]? = some e:=⟨_,bE aa⟩;obtain⟨z,Q,Za⟩:=B.get P;obtain⟨Zq,o,Zb⟩:=Zo.2.2 aa;have R:=S e (da P)
 rw[←Za.br] at R
 have ZD:=G.cap
 have ZE:=G.len
 obtain⟨r,Zr⟩ : ∃r,r=min m z.br:=⟨_,rfl⟩;obtain⟨Zc,Zd,Zs⟩:=Xv z (K.take r) (by rw[dl];omega) R.2 (λp ai=>yY (O p (iE ai)));refine CS (L:=M.map bb.an) (c:=z.an) (k:=j) p0 (by rw[eD,Q];rfl) ?_;refine al ?_;refine bC (q:=j) k7 rfl rfl rfl Zb rfl aa ?_;refine a_ (v:=ptr z.g) np rfl rfl (λJ f=>by rw[Za.g];exact od (show (et (some ⟨Zq,o,none⟩) s.c s.l).pred J from Zb▸(f.has (c:=et s.A s.c s.l) gD)) P) ?_;refine al ?_;refine ao rfl wW rfl (λb d=>y0 b z (d.has aT) R.2) ?_;refine ar ?_;refine Ka (E:=cf) (src:=K) (g:=z.g) (o:=6) (xs:=kX z) (te:=194) (F:=λk=>k∉aB (cV s)) r Zr dD rfl rfl rfl (by rw[Zs];exact cA) (λw' C=>G.ext C.ext (λ_ h=>h)) (by show 6+z.br*2≤15;omega) ?_;refine al ?_;refine fz r m dD rfl rfl (.inl ⟨_,_,rfl,rfl,rfl⟩) (.inr ⟨rfl,rfl⟩) aa aa ?_;refine aK ?_;exact bi ⟨j+1,M.set j Zc,_,m - r,c1 - r,(K.take m).drop r⟩ ⟨by dsimp only;omega,B.set Q Zd,G.cut aa (bW _),λp ai=>O p (iE (lN ai))⟩ (by dsimp only;omega) (cj rfl rfl rfl rfl) (λ_ h=>(af.C4 (z:=Zc) (by rw[bb.an,Zd.g];exact h.ax (aA.cons bj (aA.cons bj (aA.cons bj (aA.cons bj aA.nil))))) Q).ax (aA.cons cw (aA.cons cw (aA.cons bj aA.nil))));refine bx ?_;intro I a;refine aP.bQ (0,{ s with l:=M }) ⟨rfl,rfl,B.ok x⟩ rfl ?_;simp only[cV,cO.an,rR,B.et,B.len];exact a.ax (aA.cons bj (aA.cons bj (aA.cons bj aA.nil)))
end Go.Proofs.YtlgnfdodnhokjaaGreatDoor.Mq
