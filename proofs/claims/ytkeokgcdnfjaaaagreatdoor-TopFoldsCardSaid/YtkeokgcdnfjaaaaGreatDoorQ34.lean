/- part 34 of the proof -/
import Derived.Test.YtkeokgcdnfjaaaaGreatDoorQ33
namespace Go.Proofs.YtkeokgcdnfjaaaaGreatDoor.Mq
open Go Go.RowKit Go.Proofs Tryz
theorem vL {b w:World} {S:List Nat} {s:cL} {cs:List Chunk} {N:Int} {x:ls} {p:bl} (a:fF s N) (i:x.text.length≤256) {e z:bc} (d:s.l.getLast?=some e) (j:z.g=e.g) (k:1≤z.br∧z.br≤4) {f:ej→ej} (m:f e.abs=z.abs) (dir:List UInt8)
 (n:gj s.abs x p=jo { s.abs with dir:=dir } f) (o:af b S (z.an::aT ((s.l.map bc.an).eraseIdx (s.l.length - 1))::(cL.an { s with dir:=dir })::ek s.A s.c s.l::cs) w):
 jp s N x p { s with l:=s.l.set (s.l.length - 1) z,dir:=dir }∧af b S (cT { s with l:=s.l.set (s.l.length - 1) z,dir:=dir }) w:=by
 have h:=(CH d).1
 refine⟨jp.of a i rfl (Wh a.br k) ?_,?_⟩;rw[n];show (⟨_,_,_,_⟩ :eW)=⟨_,_,_,_⟩
 rw[Wg d m];rfl
 have q:=o.CG h
 simp only[cT,cL.an,rz,We h j,fT];exact q.aw ae
theorem vM {w a:World} {s z:cL} {N:Int} {x:ls} {p:bl} (h:jp s N x p z∧af w (aB (cT s)) (cT z) a):yE s N x p w (.returned (.tuple #[])) a:=aP.bP z h.1 rfl h.2
theorem Wl (w:World) (s:cL) (Zd:bb w (cT s)) {N:Int} (i:fF s N) (V:N≤1000000000000000) (x:ls) (r:x.text.length≤256) (p:bl) {e:bc} (t:s.l.getLast?=some e):Calls prog 75 [ptr s.g,CJ x,d9 p].toArray w (yE s N x p w):=by
 have y:=i.br
 have u:e∈s.l:=t_ t
 have v:=y e u
 have B: (s.l.map bc.an)[s.l.length - 1]? = some e.an:=by rw[eJ,(CH t).1];rfl
 refine bI func75 ntmps75 Zd ?_;refine ah ?_;intro Zs Zt Zu;refine aq ?_;intro Zv Zw Zx;refine bo ?_;refine ao rfl zx rfl (λa b=>CD a p) ?_;refine ay ?_;refine b2 rfl (λC=>?_) (λC=>?_);have R: ¬di p:=λh=>by rw[b1 h] at C;exact absurd C a1
 refine ah ?_;intro m c;exact aN s (jp.of i r rfl y (by unfold gj;rw[ax R])) c;have R:di p:=Classical.byContradiction λh=>by rw[cm h] at C;exact absurd C a1
 have ai:=Cy (yA R) (Cx (i.wf.gk e.abs (dF.2 ⟨e,u,rfl⟩)))
 have n:=Wi t v x R
 obtain⟨q,X⟩ : ∃q,q=hS p (gY e.abs):=⟨_,rfl⟩;rw[←X] at ai n
 have Ze:x.kind=1→gB s.abs 1 q=gj s.abs x p:=λh=>by rw[n,ax h]
 have Y: (x.kind=2∨x.kind=3)∧ ¬(1≤(e.br:Int)∧(e.br:Int)≤x.kind - 1)→gB s.abs x.kind.toNat q=gj s.abs x p:=λh=>by
  rcases h.1 with j | j
  rw[n,ag aa,ax j,ag aa,j];rfl
  rw[n,ag aa,ag aa,ax j,ag aa,j];rfl
 have Z: (x.kind=2∨x.kind=3)∧(1≤(e.br:Int)∧(e.br:Int)≤x.kind - 1)→gj s.abs x p=jo s.abs (λd=>gA d x.kind.toNat q):=λh=>by
  rcases h.1 with j | j
  rw[n,ag aa,ax j,ax aa,j];rfl
  rw[n,ag aa,ag aa,ax j,ax aa,j];rfl
 have Zf:x.kind=4∧(1≤(e.br:Int)∧(e.br:Int)≤3)→gj s.abs x p=jo s.abs (λd=>{ gA d 4 q with code:=x.code,has:=x.has }):=λh=>by
  rw[n,ag aa,ag aa,ag aa,ax h.1,ax h.2]
 have Zg:x.kind=5∧(1≤(e.br:Int)∧(e.br:Int)≤3)→gj s.abs x p=jo s.abs (λd=>{ d with line:=x.text }):=λh=>by
  rw[n,ag aa,ag aa,ag aa,ag aa,ax h.1,ax h.2]
 have Zh:x.kind=6∧(1≤(e.br:Int)∧(e.br:Int)≤2)→gj s.abs x p=jo { s.abs with dir:=x.text } (λd=>{ d with dir:=x.text }):=λh=>by
  rw[n,ag aa,ag aa,ag aa,ag aa,ag aa,ax h.1,ax h.2]
 have Zi:x.kind=6∧ ¬(1≤(e.br:Int)∧(e.br:Int)≤2)→({ s with dir:=x.text }:cL).abs=gj s.abs x p:=λh=>by
  rw[n,ag aa,ag aa,ag aa,ag aa,ag aa,ax h.1,ag h.2];rfl
 have W: (x.kind=4∨x.kind=5)∧ ¬(1≤(e.br:Int)∧(e.br:Int)≤3)∨ ¬x.kind=1∧ ¬x.kind=2∧ ¬x.kind=3∧ ¬x.kind=4∧ ¬x.kind=5∧ ¬x.kind=6→s.abs=gj s.abs x p:=λh=>by
  rw[n];rcases h with ⟨j | j,Za⟩ | h
  rw[ag aa,ag aa,ag aa,ax j,ag Za];rw[ag aa,ag aa,ag aa,ag aa,ax j,ag Za];rw[ag h.1,ag h.2.1,ag h.2.2.1,ag h.2.2.2.1,ag h.2.2.2.2.1,ag h.2.2.2.2.2]
 refine ay ?_;refine ao rfl zv rfl (λa b=>(by have h:=CE a s (b.has cp) (b.has hD);rw[t] at h;exact h)) ?_;refine bo ?_;refine bG [0,1] 3 [[(2,false,[]),(3,false,[]),(4,true,[])]] ?_;refine aS ?_;refine ao rfl D9 rfl (λa b=>Jw a e (me (b.has iz) u) v) ?_;refine ah ?_;refine ao rfl D8 rfl (λa b=>(by have h:=Jh a p (gY e.abs);rw[←X] at h;exact h)) ?_;refine gN ?_;refine aj (λZb=>?_) (λZb=>?_);refine ah ?_;refine aZ (l0:=cT s) ae rfl sd rfl (λa b=>tF a s (b.bp ae) i V _ 1 rfl aa q ai) (λz o=>?_);refine ah ?_;intro m c;exact aN z ⟨o.1,o.2.1,o.2.2.trans (Ze Zb)⟩ c;refine aC ?_;refine aj (λaH=>?_) (λaH=>?_);have Zc:=aH
 refine ar ?_;refine ev rfl ((b1 Zc)) ?_;refine bw ?_;refine ao rfl m_ rfl (λa b=>vK a e (me (b.has iz) u) _ _) ?_;refine ar ?_;refine aj (λZj=>?_) (λZj=>?_);refine ar ?_;refine vC (L:=s.l.map bc.an) (k:=s.l.length - 1) nk B ?_;refine ar ?_;refine aZ (l0:=[e.an]) ae rfl wF rfl (λa b=>CI a e (b.bp ae) _ x.kind.toNat aa aa v.2 q) (λ⟨S,T,U,D,E,F,G,H,I,J,K,M⟩ ⟨A,O,P,Q⟩=>?_);refine ah ?_;intro m c;exact vM (vL i r t (z:=⟨S,T,U,D,E,F,G,H,I,J,K,M⟩) A (by dsimp only at P Q ⊢;omega) (f:=λd=>gA d x.kind.toNat q) O.symm s.dir (Z aa) (c.aw ae));refine aS ?_;refine aZ (l0:=cT s) ae rfl sd rfl (λa b=>tF a s (b.bp ae) i V _ x.kind.toNat aa aa q ai) (λz o=>?_);refine ah ?_;intro m c;exact aN z ⟨o.1,o.2.1,o.2.2.trans (Y aa)⟩ c;have Zc:=aH
 refine ay ?_;refine aj (λZk=>?_) (λZk=>?_);refine bw ?_;refine ao rfl m_ rfl (λa b=>vK a e (me (b.has iz) u) _ _) ?_;refine ar ?_;refine aj (λZl=>?_) (λZl=>?_);refine ar ?_;refine vC (L:=s.l.map bc.an) (k:=s.l.length - 1) nk B ?_;refine ar ?_;refine aZ (l0:=[e.an]) ae rfl wF rfl (λa b=>CI a e (b.bp ae) _ x.kind.toNat aa aa v.2 q) (λ⟨S,T,U,D,E,F,G,H,I,J,K,M⟩ ⟨A,O,P,Q⟩=>?_);refine ah ?_;intro m c;exact vM (vL i r t (z:=⟨S,T,U,D,E,F,G,H,I,J,K,M⟩) A (by dsimp only at P Q ⊢;omega) (f:=λd=>gA d x.kind.toNat q) O.symm s.dir (Z aa) (c.aw ae));refine aS ?_;refine aZ (l0:=cT s) ae rfl sd rfl (λa b=>tF a s (b.bp ae) i V _ x.kind.toNat aa aa q ai) (λz o=>?_);refine ah ?_;intro m c;exact aN z ⟨o.1,o.2.1,o.2.2.trans (Y aa)⟩ c;refine al ?_;refine aj (λZm=>?_) (λZm=>?_);refine ah ?_;refine ao rfl m_ rfl (λa b=>vK a e (me (b.has iz) u) _ _) ?_;refine ar ?_;refine aj (λZn=>?_) (λZn=>?_);refine ah ?_;refine vC (L:=s.l.map bc.an) (k:=s.l.length - 1) nk B ?_;refine aq ?_;refine aZ (l0:=[e.an]) ae rfl wF rfl (λa b=>CI a e (b.bp ae) _ 4 rfl aa v.2 q) (λ⟨S,T,U,D,E,F,G,H,I,J,K,M⟩ ⟨A,O,P,Q⟩=>?_);refine ar ?_;dsimp only at A Q P;subst A
 refine ew [0,1,2,3,4,5,6,7,8] 2 [[(9,false,[10,11,12]),(13,true,[])]] (_) mixed ab (λ_ c=>c.drew) (λ_ h=>h.rem bv.head) ?_;refine bw ?_;refine bY (λ_=>True) (λ_ h=> .inr (h.rem bv.head)) (λ_ h=>aU) ?_;refine bo ?_;intro m c;exact vM (vL i r t (z:=⟨e.g,x.code,x.has,D,E,F,G,H,I,J,K,M⟩) rfl bm (f:=λd=>{ gA d 4 q with code:=x.code,has:=x.has }) (by dsimp only;rw[←O];rfl) s.dir (Zf aa) (c.aw ae));refine ah ?_;intro m c;exact aN s (jp.of i r rfl y (W aa)) c;refine al ?_;refine aj (λZo=>?_) (λZo=>?_);refine ah ?_;refine ao rfl m_ rfl (λa b=>vK a e (me (b.has iz) u) _ _) ?_;refine ar ?_;refine aj (λZp=>?_) (λZp=>?_);refine ar ?_;refine vC (L:=s.l.map bc.an) (k:=s.l.length - 1) nk B ?_;refine aJ ?_;intro m c;exact vM (vL i r t (z:={ e with line:=x.text }) rfl v (f:=λd=>{ d with line:=x.text }) rfl s.dir (Zg aa) (c.aw ae));refine ah ?_;intro m c;exact aN s (jp.of i r rfl y (W aa)) c;refine al ?_;refine aj (λZq=>?_) (λZq=>?_);refine bH ?_;refine ao rfl m_ rfl (λa b=>vK a e (me (b.has iz) u) _ _) ?_;refine ar ?_;refine aj (λZr=>?_) (λZr=>?_);refine ar ?_;refine vC (L:=s.l.map bc.an) (k:=s.l.length - 1) nk B ?_;refine aJ ?_;intro m c;exact vM (vL i r t (z:={ e with dir:=x.text }) rfl v (f:=λd=>{ d with dir:=x.text }) rfl x.text (Zh aa) (c.aw ae));refine ah ?_;intro m c;exact aN { s with dir:=x.text } (jp.of i r rfl y (Zi aa)) c;refine ah ?_;intro m c;exact aN s (jp.of i r rfl y (W aa)) c
theorem Wm (w:World) (s:cL) (a:bb w (cT s)) {N:Int} (b:fF s N) (c:N≤1000000000000000) (x:ls) (d:x.text.length≤256) (p:bl):Calls prog 75 [ptr s.g,CJ x,d9 p].toArray w (yE s N x p w):=by
 cases f:s.l.getLast? with
 | none=>exact Wk w s a b c x d p f
 | some e=>exact Wl w s a b c x d p f
section
def iO {α:Type} (f:α→α) (l:List α) (i:Nat):List α:=(l.take i).map f++l.drop i
section
variable {α:Type} {f:α→α} {l:List α} {i:Nat} {e:α}
theorem JC:iO f l 0=l:=by simp[iO]
theorem JD (h:l.length≤i):iO f l i=l.map f:=by rw[iO,eu h,n0 h,fJ]
theorem CK (h:l[i]? = some e): (iO f l i)[i]? = some e:=by
 have hi:=(cU.1 h).1
 rw[iO,kS (by simp;omega),mm];simpa [iv (Nat.le_of_lt hi)] using h
theorem Wn (h:l[i]? = some e): (iO f l i).set i (f e)=iO f l (i+1):=by
 have hi:=(cU.1 h).1
 have b:=(cU.1 h).2
 have a: ((l.take i).map f).length=i:=by simp;omega
 unfold iO;rw[rQ _ _ aa,a,mX,kR hi,mo,fU,h];simp
end
theorem JE {f:bc→bc} (a: ∀e,(f e).g=e.g) (A:Option Addr) (c:Nat) (l:List bc):ek A c (l.map f)=ek A c l:=by
 show gz _ _ _ (l.map f).length _ (jJ.all ((l.map f).map bc.g))=_
 have e:l.map (bc.g ∘ f)=l.map bc.g:=tY (λe _=>a e)
 rw[cN,n4,e]
def kN (x:ed) (e:bc):bc:={ e with cut:=e.cut || qi e.b8 x }
theorem Wo (x:ed) {e:bc} (h:1≤e.br∧e.br≤4): (kN x e).abs=rx x e.abs:=by
 unfold rx;rw[vI e h];rfl
theorem Wp (x:ed) {l:List bc} (h:gl l): (l.map (kN x)).map bc.abs=(l.map bc.abs).map (rx x):=by
 rw[n4,n4];exact tY (λe a=>Wo x (h e a))
theorem af.Wq {b w:World} {S:List Nat} {cs:List Chunk} {a c:bc} {l:List bc} (h:af b S (eQ (a::c::l)::cs) w):af b S (a.an::c.an::eQ l::cs) w:=by
 have d:af b S (a.an::aT (c.an::l.map bc.an)::cs) w:=h.pick (k:=0) rfl
 have e:af b S (aT (c.an::l.map bc.an)::a.an::cs) w:=d.perm (List.Perm.swap _ _ _)
 have f:af b S (c.an::eQ l::a.an::cs) w:=e.pick (k:=0) rfl
 exact f.perm (n_ (l₁:=[c.an,eQ l]) (l₂:=cs))
theorem Wr {P:Program} {n:Nat} {d:Code} {Q:cl} {e:Fr} {b:World} {S:List Nat} {cs cs':List Chunk} {a c:bc} {l:List bc} (f:bv cs (eQ (a::c::l)) cs') (h:dc P n d Q e (af b S (a.an::c.an::eQ l::cs'))):dc P n d Q e (af b S cs):=
 cG h (Sub.refl _) (λ_ g=>(g.perm f.perm).Wq)
theorem af.CL {b w:World} {S:List Nat} {cs:List Chunk} {c:bc} {l:List bc} (h:af b S (c.an::eQ l::cs) w):af b S (eQ (c::l)::cs) w:=by
 have a:af b S (aT [c.an]::eQ l::cs) w:=h.close (l:=[c.an]) ae
 exact a.AK
theorem af.JF {b w:World} {S:List Nat} {cs:List Chunk} {a c:bc} {l:List bc} (h:af b S (a.an::c.an::eQ l::cs) w):af b S (eQ (a::c::l)::cs) w:=by
 have d:af b S (c.an::eQ l::a.an::cs) w:=h.perm (n_ (l₁:=[c.an,eQ l]) (l₂:=cs)).symm
 exact (d.CL.perm (List.Perm.swap _ _ _)).CL
theorem af.CM {b w:World} {S:List Nat} {cs:List Chunk} {f:bc→bc} {l:List bc} {i:Nat} {e z:bc} (h:af b S (z.an::aT (((iO f l i).map bc.an).eraseIdx i)::cs) w) (a:l[i]? = some e) (d:z=f e):af b S (eQ (iO f l (i+1))::cs) w:=by
 have c:=h.CG (CK a)
 rw[d,Wn a] at c
 exact c
abbrev cL.Ws (s:cL) (A:Option Addr) (c:Nat) (l:List bc):cL:={ s with A:=A,c:=c,l:=l }
theorem Wt (w:World) (s:cL) (Y:bb w (cT s)) {N:Int} (Q:fF s N) (x:ed):Calls prog 117 [ptr s.g,ru x].toArray w
 (aP (λ_:Option Addr × Nat × List bc=> .tuple #[]) (cT s) (λt=>cT (s.Ws t.1 t.2.1 t.2.2)) (λt=>gl t.2.2∧t.2.2.map bc.abs=(jH x (s.l.map bc.abs)).map (rx x)) w):=by
 have Z:=Q.len
 have R:=Q.br
 obtain⟨g,A,c,l,most,ids,dir⟩:=s;dsimp only at Z R ⊢
 refine bI func117 ntmps117 Y ?_;refine ah ?_;intro v Zh Zi;refine aK ?_;intro B Zj Zk;refine aS ?_;refine hC (λ_:Option Addr × Nat × List bc=>[(0,ptr g),(3,ptr v),(4,ptr B)]) (λt=>af w (aB (cT ⟨g,A,c,l,most,ids,dir⟩)) (aD B [.int .i64 x.n,.int .i64 0] 40::aD v x.enc 179::cT ⟨g,t.1,t.2.1,t.2.2,most,ids,dir⟩)) (λt=>gl t.2.2∧t.2.2.length≤10000∧t.2.2.map bc.abs=jH x (l.map bc.abs)) ?_ ?_;refine aq ?_;refine b3 (ι:=Option Addr × Nat × List bc) (λ_=>[(0,ptr g),(3,ptr v),(4,ptr B)]) (λt=>af w (aB (cT ⟨g,A,c,l,most,ids,dir⟩)) (aD B [.int .i64 x.n,.int .i64 0] 40::aD v x.enc 179::cT ⟨g,t.1,t.2.1,t.2.2,most,ids,dir⟩)) (λt=>gl t.2.2∧t.2.2.length≤10000∧jH x (t.2.2.map bc.abs)=jH x (l.map bc.abs)) (λt=>t.2.2.length) ?_ ?_;exact λw' M=>⟨(A,c,l),⟨R,by dsimp only;omega,rfl⟩,(dZ rfl rfl rfl),M⟩
 rintro⟨C,c1,l1⟩ ⟨r,E,F⟩;dsimp only at r E F ⊢
 refine yy (A:=C) (m:=l1.length) (c:=c1) hD (λK=>?_);rcases l1 with _ | ⟨a,_ | ⟨d,l2⟩⟩
 refine ar ?_;refine bG [0,1,2,3,4,5,6,7,8,9,10,11,12,13,14,15,16,17] 2 [[(18,true,[19,20,21,22,23,24,25,26,27,28,29,30,31]),(32,true,[33,34])]] ?_;refine aC ?_;refine aL rfl (λp b=>fW rfl rfl rfl (av) aG) ?_;refine aL rfl (λp b=>fW rfl rfl rfl (av) aG) ?_;refine aL rfl (λp b=>fW rfl rfl rfl (av) aG) ?_;refine aL rfl (λp b=>fW rfl rfl rfl (av) aG) ?_;refine aL rfl (λp b=>fW rfl rfl rfl (av) aG) ?_;refine aL rfl (λp b=>fW rfl rfl rfl (av) aG) ?_;refine aL rfl (λp b=>fW rfl rfl rfl (av) aG) ?_;refine aL rfl (λp b=>fW rfl rfl rfl (av) aG) ?_;refine aL rfl (λp b=>fW rfl rfl rfl (av) aG) ?_;refine aL rfl (λp b=>fW rfl rfl rfl (av) aG) ?_;refine aL rfl (λp b=>fW rfl rfl rfl (av) aG) ?_;refine ar ?_;refine fW rfl rfl rfl (av) ?_;refine bY (_) (λ_ _=> .inl rfl) (λ_ h=>h) ?_;refine aL rfl (λp b=>(kj rfl rfl av rfl aG)) ?_;refine lJ ?_;exact dr (C,c1,[]) ⟨r,E,F⟩ bO (λ_ h=>h);refine ar ?_;refine bG [0,1,2,3,4,5,6,7,8,9,10,11,12,13,14,15,16,17] 2 [[(18,true,[19,20,21,22,23,24,25,26,27,28,29,30,31]),(32,true,[33,34])]] ?_;refine aC ?_;refine aL rfl (λp b=>fW rfl rfl rfl (av) aG) ?_;refine aL rfl (λp b=>fW rfl rfl rfl (av) aG) ?_;refine aL rfl (λp b=>fW rfl rfl rfl (av) aG) ?_;refine aL rfl (λp b=>fW rfl rfl rfl (av) aG) ?_;refine aL rfl (λp b=>fW rfl rfl rfl (av) aG) ?_;refine aL rfl (λp b=>fW rfl rfl rfl (av) aG) ?_;refine aL rfl (λp b=>fW rfl rfl rfl (av) aG) ?_;refine aL rfl (λp b=>fW rfl rfl rfl (av) aG) ?_;refine aL rfl (λp b=>fW rfl rfl rfl (av) aG) ?_;refine aL rfl (λp b=>fW rfl rfl rfl (av) aG) ?_;refine aL rfl (λp b=>fW rfl rfl rfl (av) aG) ?_;refine ar ?_;refine fW rfl rfl rfl (av) ?_;refine bY (_) (λ_ _=> .inl rfl) (λ_ h=>h) ?_;refine aL rfl (λp b=>(kj rfl rfl av rfl aG)) ?_;refine lJ ?_;exact dr (C,c1,[a]) ⟨r,E,F⟩ bO (λ_ h=>h);obtain⟨y,o,O⟩:=K.2.2 av;have Zl:l2.length+2≤c1:=K.1
 subst O;have S:=vI a (r a av)
 have T:=vI d (r d av)
 have Za:qi a.b8 x=true→fH ⟨x.n,0⟩ d.b8=false→jH x ((d::l2).map bc.abs)=jH x (l.map bc.abs):=λZb Zc=>by
  rw[←F];show _=jH x (a.abs::d.abs::l2.map bc.abs)
  rw[jH,S,T,ax ⟨Zb,Zc⟩];rfl
 have U:qi a.b8 x=false∨fH ⟨x.n,0⟩ d.b8=true→(a::d::l2).map bc.abs=jH x (l.map bc.abs):=λq=>by
  rw[←F];show _=jH x (a.abs::d.abs::l2.map bc.abs)
  rw[jH,S,T,ag (λe=>by rcases q with q | q <;> simp_all)];rfl
 refine Wr nk ?_;refine ar ?_;refine bG [0,1,2,3,4,5,6,7,8,9,10,11,12,13,14,15,16,17] 2 [[(18,false,[19,20,21,22,23,24,25,26,27,28,29,30,31]),(32,false,[33,34])]] ?_;refine aC ?_;refine aL rfl (λp b=>cA rfl rfl ((by simp;omega)) (hW rfl rfl aG)) ?_;refine aL rfl (λp b=>cA rfl rfl ((by simp;omega)) (ni rfl rfl aG)) ?_;refine aL rfl (λp b=>cA rfl rfl ((by simp;omega)) (m5 LN rfl rfl aG)) ?_;refine aL rfl (λp b=>cA rfl rfl ((by simp;omega)) (ba mw rfl rfl (λI D=>by subst D;exact b.eM kp rfl) aG)) ?_;refine aL rfl (λp b=>cA rfl rfl ((by simp;omega)) (bD (q:=0) kZ rfl rfl rfl rfl rfl (by show 0<l2.length+1+1;omega) aG)) ?_;refine aL rfl (λp b=>cA rfl rfl ((by simp;omega)) (ba m9 rfl rfl (λI D=>by subst D;exact nW (b.has eY) (k:=0) (e:=a) rfl) aG)) ?_;refine aL rfl (λp b=>cA rfl rfl ((by simp;omega)) (ni rfl rfl aG)) ?_;refine aL rfl (λp b=>cA rfl rfl ((by simp;omega)) (m5 LL rfl rfl aG)) ?_;refine aL rfl (λp b=>cA rfl rfl ((by simp;omega)) (dq (q:=0) underlying148 mv rfl rfl rfl a7 aa aG)) ?_;refine aL rfl (λp b=>cA rfl rfl ((by simp;omega)) (cw em rfl rfl rfl (λI D j u P=>by subst D;exact b.kY (sz:=2) aQ rfl j u P) aG)) ?_;refine aL rfl (λp b=>cA rfl rfl ((by simp;omega)) (cw zo rfl rfl rfl (λI D j u P=>by subst D;exact b.kY (sz:=3) iz rfl j u P) aG)) ?_;refine ar ?_;refine cA rfl rfl ((by simp;omega)) ?_;refine ao rfl zC rfl (λJ V=>Cp J a.b8 x) ?_;refine bY (_) (λ_ h=> .inr h) (λ_ h=>h) ?_;refine aL rfl (λp b=>(zb rfl rfl (by simp;omega) rfl aG)) ?_;refine aq ?_;refine my 30 rfl (λG=>?_) (λG=>?_);have Zd:=aY G
 refine ay ?_;refine aL rfl (λp b=>cA rfl rfl (G) (bD (q:=1) kZ rfl rfl rfl rfl rfl (by show 1<l2.length+1+1;omega) aG)) ?_;refine aL rfl (λp b=>cA rfl rfl (G) (ba m9 rfl rfl (λI D=>by subst D;exact nW (b.has eY) (k:=1) (e:=d) rfl) aG)) ?_;refine ar ?_;refine aL rfl (λp b=>cA rfl rfl (G) (dq (q:=0) underlying148 mv rfl rfl rfl a7 aa aG)) ?_;refine aS ?_;refine ao rfl uo rfl (λJ V=>vA J ⟨x.n,0⟩ d.b8) ?_;refine bY (λ_=>True) (λ_ h=> .inr ⟨.inr h,h⟩) (λ_ h=>aU) ?_;refine ay ?_;refine b2 rfl (λaH=>?_) (λaH=>?_);simp only[bU] at aH
 refine aJ ?_;refine fh 1 (l2.length+2) kZ rfl rfl (.inl ⟨_,_,rfl,rfl,rfl⟩) (.inr ⟨rfl,rfl⟩) aa aa ?_;rw[ag (show ¬c1=1 by omega)];refine Cu (c:=ek (some ⟨y,o,none⟩) c1 (a::d::l2)) (c':=ek ((some ⟨y,o,none⟩ :Option Addr).map (·.add (1*1))) (c1 - 1) (d::l2)) uA (Jl _ _ _ _ _ _ _ _ _ _) (λw h=>Jy av h) ?_;refine ay ?_;exact bg ((some ⟨y,o,none⟩ :Option Addr).map (·.add (1*1)),c1 - 1,d::l2) ⟨λe H=>r e (tZ _ H),Nat.le_of_succ_le E,Za G aH⟩ (Nat.lt_succ_self _) (dZ rfl rfl rfl) (λ_ h=>((h.aw (l:=[d.an,eQ l2,aD B _ 40,aD v _ 179,aD g _ 153,ek ((some ⟨y,o,none⟩ :Option Addr).map (·.add (1*1))) (c1 - 1) (d::l2)]) ae).CL).aw ae);simp only[bU] at aH
 refine aS ?_;exact dr (some ⟨y,o,none⟩,c1,a::d::l2) ⟨r,E,U (.inr aH)⟩ (dZ rfl rfl rfl) (λ_ h=>(af.JF (h.aw (l:=[a.an,d.an,eQ l2,aD B _ 40,aD v _ 179,aD g _ 153,ek (some ⟨y,o,none⟩) c1 (a::d::l2)]) ae)).aw ae);have Zd:=a8 G
 refine b5 ?_;refine bY (λ_=>True) (λ_ h=> .inr ⟨.inr h,h⟩) (λ_ h=>aU) ?_;refine aR ?_;exact dr (some ⟨y,o,none⟩,c1,a::d::l2) ⟨r,E,U (.inl G)⟩ (dZ rfl rfl rfl) (λ_ h=>(af.JF (h.aw (l:=[a.an,d.an,eQ l2,aD B _ 40,aD v _ 179,aD g _ 153,ek (some ⟨y,o,none⟩) c1 (a::d::l2)]) ae)).aw ae);rintro⟨C,c1,l1⟩ ⟨r,E,F⟩;dsimp only at r E F ⊢
 refine bw ?_;refine b3 (ι:=Nat) (λi=>[(3,ptr v),(56,.slice C l1.length c1),(57,.int .i64 (l1.length:Int)),(58,.int .i64 (i:Int))]) (λi=>af w (aB (cT ⟨g,A,c,l,most,ids,dir⟩)) [aD B [.int .i64 x.n,.int .i64 0] 40,aD v x.enc 179,aD g [.slice C l1.length c1,.int .i64 most,.int .u64 ids,.string (bs dir)] 153,ek C c1 l1,eQ (iO (kN x) l1 i)]) (λi=>i≤l1.length) (λi=>l1.length - i) ?_ ?_;exact λw' M=>⟨0,bN _,(cu rfl rfl rfl rfl),by rw[JC];exact M⟩
 intro i hi;refine yy (A:=C) (m:=l1.length) (c:=c1) hD (λK=>?_);refine al ?_;refine aj (λZe=>?_) (λZe=>?_);obtain⟨e,H⟩ : ∃e,l1[i]? = some e:=⟨_,bE aa⟩;obtain⟨y,o,O⟩:=K.2.2 aa;subst O;have Zf:e.cut=true→(kN x e).an=aD e.g ((kM e).set 2 (.bool true)) 150:=λh=>by simp[bc.an,kN,h]
 have Zg:e.cut=false→(kN x e).an=aD e.g ((kM e).set 2 (.bool (qi e.b8 x))) 150:=λh=>by simp[bc.an,kN,h]
 refine Cv (L:=(iO (kN x) l1 i).map bc.an) (c:=e.an) (k:=i) nk (by rw[eJ,CK H];rfl) ?_;refine al ?_;refine bD (q:=i) kZ rfl rfl rfl rfl rfl aa ?_;refine ba m9 rfl rfl (λI r=>nW (r.has kp) H) ?_;refine ah ?_;refine bG [0,1,2,3,4,5,6,7,8,9,10,11,12] 2 [[(13,false,[14,15,16,17]),(18,true,[])]] ?_;refine aC ?_;refine my 68 rfl (λW=>?_) (λW=>?_);refine lJ ?_;exact bg (i+1) aa aa (cu rfl rfl rfl rfl) (λ_ h=>(af.CM (z:=kN x e) ((Zf bz).symm▸(h.aw (l:=[aD e.g _ 150,aT (((iO (kN x) l1 i).map bc.an).eraseIdx i),aD B _ 40,aD v _ 179,aD g _ 153,ek (some ⟨y,o,none⟩) c1 l1]) ae)) H rfl).aw ae);refine ah ?_;refine aL rfl (λp b=>cA rfl rfl (W) (dq (q:=0) underlying148 mv rfl rfl rfl a7 aa aG)) ?_;refine ay ?_;refine ao rfl zC rfl (λJ V=>Cp J e.b8 x) ?_;refine ef ?_;exact bg (i+1) aa aa (cu rfl rfl rfl rfl) (λ_ h=>(af.CM (z:=kN x e) ((Zg bz).symm▸(h.aw (l:=[aD e.g _ 150,aT (((iO (kN x) l1 i).map bc.an).eraseIdx i),aD B _ 40,aD v _ 179,aD g _ 153,ek (some ⟨y,o,none⟩) c1 l1]) ae)) H rfl).aw ae);refine ay ?_;intro Zm X;refine aP.bP (C,c1,l1.map (kN x)) ⟨λe H=>by obtain⟨d,ak,rfl⟩:=dF.1 H;exact r d ak,by dsimp only;rw[Wp x r,F]⟩ rfl ?_;rw[JD aa] at X
 simp only[cT,cL.an,rz,JE (f:=kN x) (λ_=>rfl),cN];exact X.aw ae
end
theorem Wu {P:Program} {n:Nat} {ops:Array Oper} {Q:cl} {rest:List Oper} {l:Fr} {d:Nat} {ty:TypeId} {pos:String} {a6:Array Edge} {H:World→Prop} {x i:Operand} {t e sz a:Nat} {z:List Value} {g o m c q:Nat} {k:IntKind} {j:Int} (b:cY P t e sz a z) (ak:Nat.blt d n=true) (f:a_ l x=some (.slice (some ⟨g,o,none⟩) m c)) (hi:a_ l i=some (.int k j))
 (p:j=(q:Int)) (r:q<m) (h:az P n ops Q rest ((d,.pointer (some ⟨g,o+q*sz,none⟩))::l) H):az P n ops Q (⟨some d,.indexAddr t x i,ty,pos,a6,none⟩::rest) l H:=
 bD b ak f hi rfl p r (by rw[Addr.add_lit];exact h)
def qm (x:ed):Nat→bc→bc
 | 0,e=>e
 | j+1,e=>(qm x j e).set j (lr (e.at_ j) x)
theorem CN (x:ed) (e:bc): ∀j,(qm x j e).g=e.g
 | 0=>rfl
 | j+1=>by rw[qm,Jv,CN x e j]
theorem Wv (x:ed) (e:bc) {j:Nat} (h:j<4): (qm x j e).at_ j=e.at_ j:=by
 match j,h with
 | 0,_=>rfl
 | 1,_=>rfl
 | 2,_=>rfl
 | 3,_=>rfl
def mT (x:ed) (e:bc):bc:=qm x e.br e
theorem JG (x:ed) {e:bc} (h:1≤e.br∧e.br≤4): (mT x e).abs=vE x e.abs∧(mT x e).br=e.br:=by
 obtain⟨g,code,has,cut,dir,line,id,b8,dN,gc,mO,br⟩:=e;match br,h with
 | 1,_=>exact⟨rfl,rfl⟩
 | 2,_=>exact⟨rfl,rfl⟩
 | 3,_=>exact⟨rfl,rfl⟩
 | 4,_=>exact⟨rfl,rfl⟩
 | n+5,h=>exact absurd h.2 (by show ¬n+5≤4;omega)
 | 0,h=>exact absurd h.1 (by show ¬1≤0;decide)
theorem Ww (x:ed) {l:List bc} (h:gl l): (l.map (mT x)).map bc.abs=(l.map bc.abs).map (vE x):=by
 rw[n4,n4];exact tY (λe a=>(JG x (h e a)).1)
theorem Wx (x:ed) {l:List bc} (h:gl l):gl (l.map (mT x)):=λe a=>by
 obtain⟨d,ak,rfl⟩:=dF.1 a;rw[(JG x (h d ak)).2];exact h d ak
structure vN (s:cL) (N:Int) (x:ed) (z:cL):Prop where
 g:z.g=s.g
 ok:fF z N
 abs:z.abs=ry s.abs x
theorem vN.of {s z:cL} {N:Int} {x:ed} (b:fF s N) (c:z.g=s.g) (ai:gl z.l) (a:z.abs=ry s.abs x):vN s N x z:=⟨c,⟨a▸VW b.wf x,ai⟩,a⟩
def Wy (s:cL) (N:Int) (x:ed) (w:World):Ending→World→Prop:=aP (λ_:cL=> .tuple #[]) (cT s) cT (vN s N x) w
theorem Wz (w:World) (s:cL) (M:bb w (cT s)) {N:Int} (n:fF s N) (x:ed):Calls prog 72 [ptr s.g,ru x].toArray w (Wy s N x w):=by
 have O:=n.len
 have D:=n.br
 obtain⟨g,A,c,l,most,ids,dir⟩:=s;dsimp only at O D
 refine bI func72 ntmps72 M ?_;refine ah ?_;intro d Za Zb;refine bo ?_;refine ao rfl wE rfl (λb p=>yw b x) ?_;refine ay ?_;refine b2 rfl (λr=>?_) (λr=>?_);have E: ¬dX x:=λh=>by rw[b1 h] at r;exact absurd r a1
 refine ah ?_;intro P y;exact aP.bP ⟨g,A,c,l,most,ids,dir⟩ (vN.of n rfl D (by unfold ry;rw[ax E])) rfl (y.aw (aA.cons cv (aA.cons cv (aA.cons cv aA.nil))));have E: ¬¬dX x:=λh=>by rw[cm h] at r;exact absurd r a1
 refine aR ?_;refine hC (λ_:Option Addr × Nat × List bc=>[(0,ptr g),(3,ptr d)]) (λt=>af w (aB (cT ⟨g,A,c,l,most,ids,dir⟩)) (aD d x.enc 179::cT ⟨g,t.1,t.2.1,t.2.2,most,ids,dir⟩)) (λt=>gl t.2.2∧t.2.2.map bc.abs=(if x.kind=2 then (jH x (l.map bc.abs)).map (rx x) else l.map bc.abs)) ?_ ?_;refine pt rfl (λF=>?_) (λF=>?_);refine ah ?_;refine aZ (l0:=cT ⟨g,A,c,l,most,ids,dir⟩) (aA.cons cv (aA.cons cv (aA.cons cv aA.nil))) rfl MH rfl (λb p=>Wt b ⟨g,A,c,l,most,ids,dir⟩ (p.bp (aA.cons cv (aA.cons cv (aA.cons cv aA.nil)))) n x) (λt K=>?_);refine aq ?_;exact dr t ⟨K.1,by rw[ax F];exact K.2⟩ (iA rfl rfl) (λ_ h=>h.aw (aA.cons oy (aA.cons bi (aA.cons bi (aA.cons bi aA.nil)))));refine aq ?_;exact dr (A,c,l) ⟨D,by rw[ag F]⟩ (iA rfl rfl) (λ_ h=>h.aw (aA.cons bi (aA.cons bi (aA.cons bi (aA.cons bi aA.nil)))));rintro⟨v,c1,l1⟩ ⟨a,G⟩;dsimp only at a G ⊢
 have Zc:l1.length≤10000:=by
  have B:=aX List.length G
  have Q:=(CA x (l.map bc.abs)).length_le
  rw[cN] at B Q
  split at B
  rw[cN] at B;omega
  rw[cN] at B;omega
 refine bw ?_;refine b3 (ι:=Nat) (λi=>[(3,ptr d),(25,.slice v l1.length c1),(26,.int .i64 (l1.length:Int)),(27,.int .i64 (i:Int))]) (λi=>af w (aB (cT ⟨g,A,c,l,most,ids,dir⟩)) [aD d x.enc 179,aD g [.slice v l1.length c1,.int .i64 most,.int .u64 ids,.string (bs dir)] 153,ek v c1 l1,eQ (iO (mT x) l1 i)]) (λi=>i≤l1.length) (λi=>l1.length - i) ?_ ?_;exact λw' H=>⟨0,bN _,(cu rfl rfl rfl rfl),by rw[JC];exact H⟩
 intro i hi;refine yy (A:=v) (m:=l1.length) (c:=c1) cp (λR=>?_);refine al ?_;refine pt rfl (λS=>?_) (λS=>?_);obtain⟨e,C⟩ : ∃e,l1[i]? = some e:=⟨_,bE aa⟩;obtain⟨I,o,T⟩:=R.2.2 aa;have U:=a e (c8 C)
 subst T;refine Cv (L:=(iO (mT x) l1 i).map bc.an) (c:=e.an) (k:=i) oy (by rw[eJ,CK C];rfl) ?_;refine al ?_;refine bD (q:=i) kZ rfl rfl rfl rfl rfl aa ?_;refine ba m9 rfl rfl (λV a=>nW (a.has iz) C) ?_;refine al ?_;refine ao rfl wB rfl (λb p=>yD b e (p.has aQ) U.2) ?_;refine bo ?_;refine b3 (ι:=Nat) (λj=>[(3,ptr d),(25,.slice (some ⟨I,o,none⟩) l1.length c1),(26,.int .i64 (l1.length:Int)),(27,.int .i64 (i:Int)),(6,.slice (some ⟨e.g,6,none⟩) e.br 4),(33,.slice (some ⟨e.g,6,none⟩) e.br 4),(34,.int .i64 (e.br:Int)),(35,.int .i64 (j:Int))]) (λj=>af w (aB (cT ⟨g,A,c,l,most,ids,dir⟩)) [aD e.g (kM (qm x j e)) 150,aT (((iO (mT x) l1 i).map bc.an).eraseIdx i),aD d x.enc 179,aD g [.slice (some ⟨I,o,none⟩) l1.length c1,.int .i64 most,.int .u64 ids,.string (bs dir)] 153,ek (some ⟨I,o,none⟩) c1 l1]) (λj=>j≤e.br) (λj=>e.br - j) ?_ ?_;exact λw' H=>⟨0,bN _,(w3 rfl rfl rfl rfl rfl rfl rfl rfl),H⟩
 intro j Zd;refine al ?_;refine pt rfl (λW=>?_) (λW=>?_);have J:j<4:=by omega
 have X:=Wv x e J
 refine aC ?_;refine bD (q:=j) dQ rfl rfl rfl rfl rfl aa ?_;refine cw (vs:=(e.at_ j).enc) em rfl rfl rfl (λV a k u Y=>by rw[Addr.add_lit,Addr.add_lit];exact a.eM Has.head (CB (qm x j e) j J k u (by rw[X];exact Y))) ?_;refine aq ?_;intro Ze Zf Zg;refine aJ ?_;refine ao rfl zB rfl (λb p=>Cq b (e.at_ j) x) ?_;refine Wu (q:=j) dQ rfl rfl rfl rfl aa ?_;refine eX (g:=e.g) (o:=6+j*2) (vs:=(lr (e.at_ j) x).enc) (xs:=kM (qm x j e)) (te:=150) em rfl rfl (by rw[Ju _ _ _ J];exact eo) rfl (w2 rfl rfl) (by show 6+j*2+2≤15;omega) ?_;refine aC ?_;exact bg (j+1) aa aa (w3 rfl rfl rfl rfl rfl rfl rfl rfl) (λ_ h=>h.aw (aA.cons cv (aA.cons cv (aA.cons cv (aA.cons cv (aA.cons cv aA.nil))))));have Z:j=e.br:=by omega
 subst Z;refine aR ?_;exact bg (i+1) aa aa (cu rfl rfl rfl rfl) (λ_ h=>(af.CM (z:=mT x e) (by rw[bc.an,show (mT x e).g=e.g from CN x e _];exact h.aw (aA.cons bi (aA.cons bi (aA.cons bi (aA.cons bi (aA.cons bi aA.nil)))))) C rfl).aw (aA.cons cv (aA.cons cv (aA.cons cv (aA.cons bi aA.nil)))));refine ay ?_;intro P y;refine aP.bP ⟨g,v,c1,l1.map (mT x),most,ids,dir⟩ (vN.of n rfl (Wx x a) ?_) rfl ?_;unfold ry;rw[ag E];show (⟨_,_,_,_⟩ :eW)=⟨_,_,_,_⟩;rw[Ww x a,G];rfl
 rw[JD aa] at y;simp only[cT,cL.an,rz,JE (f:=mT x) (λe=>CN x e _),cN];exact y.aw (aA.cons cv (aA.cons cv (aA.cons cv aA.nil)))
theorem JH {w:World} {e:bc} (d:e.an.pred w) (ai:e.br≤4):Rd cq w (λk=>k=e.g) (some ⟨e.g,6,none⟩) e.br 4 e.pl:=by
 refine⟨lv e ai,ai,a1,λ_=>⟨_,rfl,rfl,λk a j u b f=>?_⟩⟩;have c:=(cU.1 b).1
 rw[lv e ai] at c
 rw[vH e ai c] at b
 cases b
 have h:w.heap[e.g]? = some (.cells (kM e).toArray 150 (0,0)):=d
 rw[Addr.add_lit,Addr.add_lit,cell_of_row w e.g _ _ _ (0,0) h];have:=CB e k aa j u f
 simpa [show cq.sz=2 from rfl] using this
theorem JI {l:List bc}:vF (l.map bc.abs)=l.flatMap bc.pl:=by
 unfold vF;rw[List.flatMap_map];rfl
theorem JJ {l:List bc} (h:gl l) (i:Nat): ((l.take i).flatMap bc.pl).length≤4*i:=by
 induction i with
 | zero=>simp
 | succ i a=>
  rw[fU,tV,b0];cases hi:l[i]? with
  | none=>simp only[Option.toList_none,rK,jL];omega
  | some e=>
   have:=(h e (c8 hi)).2
   have b:=lv e this
   simp only[pm,n2,rK,fJ];omega
theorem CO (w:World) (s:cL) (u:s.an.pred w) (ai: (ek s.A s.c s.l).pred w) (n: (eQ s.l).pred w) (b:gl s.l) (M:s.l.length≤10000):Calls prog 44 [ptr s.g].toArray w
 (aP (λz:eb=>z.val) [] (λz=>[z.au]) (λz=>z.l=vF s.abs.blocks) w):=by
 have v:=yx ai
 have y:=JI (l:=s.l)
 refine aW func44 ntmps44 ?_;refine lJ ?_;refine ba mw rfl rfl (λN B=>B.bV u (by (simp;done)) rfl) ?_;refine aS ?_;refine cG (H':=af w [] [eb.au ⟨none,0,[]⟩]) ?_ (Sub.refl _) (λx C=>C.eO 40 cq);refine aq ?_;refine b3 (ι:=Nat × eb) (λt=>[(3,t.2.val),(11,.slice s.A s.l.length s.c),(12,.int .i64 (s.l.length:Int)),(13,.int .i64 (t.1 :Int))]) (λt=>af w [] [t.2.au]) (λt=>t.1≤s.l.length∧t.2.l=(s.l.take t.1).flatMap bc.pl) (λt=>s.l.length - t.1) ?_ ?_;exact λw' f=>⟨(0,⟨none,0,[]⟩),⟨bN _,rfl⟩,(cu rfl rfl rfl rfl),f⟩
 rintro⟨i,z⟩ ⟨hi,d⟩;dsimp only at hi d ⊢
 have D:=JJ b i
 rw[←d] at D
 refine al ?_;refine aj (λG=>?_) (λG=>?_);obtain⟨e,j⟩ : ∃e,s.l[i]? = some e:=⟨_,bE aa⟩;have a:=c8 j
 obtain⟨O,o,p⟩:=v.2.2 aa;have r:=ai
 rw[p] at r
 have H: (s.l.take (i+1)).flatMap bc.pl=z.l++e.pl:=by rw[fU,j,tV,d];simp
 refine al ?_;refine bD (q:=i) kZ rfl rfl rfl p rfl aa ?_;refine ba m9 rfl rfl (λP I=>I.ct (nW r j) av) ?_;refine al ?_;refine ao rfl wB rfl (λJ K=>yD J e (K.dD (me n a) av) (b e a).2) ?_;refine pX (E:=cq) (src:=e.pl) (m:=z.l.length) (xs:=cq.all z.l) (F:=λk=>k=e.g) (z.l++e.pl).length (by rw[b0,lv e (b e a).2]) dQ rfl rfl rfl (λ_=>by exact cz) (λw' f=>(JH (me n a) (b e a).2).ext f.ext av) (by simp only[maxLen];have:=(b e a).2;omega) (by have:=(b e a).2;omega) (λdE c9=>?_);refine aK ?_;exact bg (i+1,⟨dE,c9,z.l++e.pl⟩) ⟨aa,H.symm⟩ bm bO (λw' h=>(show af w [] [own 40 cq.sz (.slice dE (z.l++e.pl).length c9) (z.l++e.pl).length (cq.all (z.l++e.pl))] w' from bA.all_append cq z.l e.pl▸h).aw ae);refine bH ?_;intro Q L;exact aN z (by rw[d,eu aa];exact y.symm) L
structure lw (e z:bc):Prop where
 g:z.g=e.g
 br:z.br=e.br
 id:z.id=e.id
 dir:z.dir=e.dir
 line:z.line=e.line
 pos: (∀k,k<e.br→ei (e.at_ k))→ ∀k,k<e.br→ei (z.at_ k)
theorem lw.refl (e:bc):lw e e:=⟨rfl,rfl,rfl,rfl,rfl,λh=>h⟩
theorem lw.trans {a b c:bc} (h:lw a b) (k:lw b c):lw a c:=⟨k.g.trans h.g,k.br.trans h.br,k.id.trans h.id,k.dir.trans h.dir,k.line.trans h.line,λq i hi=>k.pos (λj d=>h.pos q j (h.br▸d)) i (h.br.symm▸hi)⟩
theorem WA (e:bc) (P:List bl) (ai:P.length≤e.br) (j:e.br≤4) (g: ∀p∈P,ei p): ∃z,lw e z∧dd (kM e) 6 (cq.all P)=kM z:=by
 rcases P with _ | ⟨a,_ | ⟨b,_ | ⟨c,_ | ⟨d,_ | ⟨f,P⟩⟩⟩⟩⟩
 exact⟨e,lw.refl e,rfl⟩;refine⟨{ e with b8:=a },⟨rfl,rfl,rfl,rfl,rfl,λh k i=>?_⟩,rfl⟩;match k,(show k<4 by omega) with
 | 0,_=>exact g a av
 | 1,_=>exact h 1 i
 | 2,_=>exact h 2 i
 | 3,_=>exact h 3 i
 refine⟨{ e with b8:=a,dN:=b },⟨rfl,rfl,rfl,rfl,rfl,λh k i=>?_⟩,rfl⟩;match k,(show k<4 by omega) with
 | 0,_=>exact g a av
 | 1,_=>exact g b av
 | 2,_=>exact h 2 i
 | 3,_=>exact h 3 i
 refine⟨{ e with b8:=a,dN:=b,gc:=c },⟨rfl,rfl,rfl,rfl,rfl,λh k i=>?_⟩,rfl⟩;match k,(show k<4 by omega) with
 | 0,_=>exact g a av
 | 1,_=>exact g b av
 | 2,_=>exact g c av
 | 3,_=>exact h 3 i
 refine⟨{ e with b8:=a,dN:=b,gc:=c,mO:=d },⟨rfl,rfl,rfl,rfl,rfl,λh k i=>?_⟩,rfl⟩;match k,(show k<4 by omega) with
 | 0,_=>exact g a av
 | 1,_=>exact g b av
 | 2,_=>exact g c av
 | 3,_=>exact g d av
 simp only[eK] at ai;omega
structure kc (l M:List bc):Prop where
 len:M.length=l.length
 at_: ∀(k:Nat) (e z:bc),l[k]? = some e→M[k]? = some z→lw e z
theorem kc.refl (l:List bc):kc l l:=⟨rfl,λk e z b a=>by rw[b] at a;cases a;exact lw.refl e⟩
theorem kc.get {l M:List bc} (h:kc l M) {k:Nat} {e:bc} (b:l[k]? = some e): ∃z,M[k]? = some z∧lw e z:=by
 have a:=(cU.1 b).1
 rw[←h.len] at a
 exact⟨M[k],bE a,h.at_ k e _ b (bE a)⟩
theorem kc.map {l M:List bc} {α:Type} (h:kc l M) (f:bc→α) (b: ∀e z,lw e z→f z=f e):M.map f=l.map f:=by
 apply ml
 intro k;rw[eJ,eJ];cases a:l[k]? with
 | none=>rw[kg (by rw[h.len];exact List.getElem?_eq_none_iff.1 a)]
 | some e=>
  obtain⟨z,c,ai⟩:=h.get a;rw[c];exact aX some (b e z ai)
theorem kc.set {l M:List bc} (h:kc l M) {i:Nat} {e z:bc} (f:M[i]? = some e) (g:lw e z):kc l (M.set i z):=by
 refine⟨by rw[fT];exact h.len,λk a b d c=>?_⟩;rw[n3] at c
 split at c
 rename_i j;subst j;split at c
 cases c
 exact (h.at_ i a e d f).trans g;cases c
 exact h.at_ k a b d c
theorem JK {e:bc} (h:e.br≤4): (∀p∈e.pl,ei p)↔ ∀k,k<e.br→ei (e.at_ k):=by
 constructor
 exact λai k a=>ai _ (c8 (vH e h a))
 intro ai p c;obtain⟨k,a⟩:=qv c;have b:=(cU.1 a).1
 rw[lv e h] at b
 rw[vH e h b] at a
 cases a
 exact ai k b
theorem kc.ok {s:cL} {N:Int} {M:List bc} (h:kc s.l M) (a:fF s N):fF { s with l:=M } N:=by
 have j:gl M:=λz d=>by
  obtain⟨k,g⟩:=qv d;have b:=(cU.1 g).1
  rw[h.len] at b
  have:=h.at_ k _ z (bE b) g
  rw[this.br];exact a.br _ (rO b)
 refine⟨⟨a.wf.most,?_,a.wf.ids,?_,?_,a.wf.dir⟩,j⟩;have:=a.wf.len
 simp only[cL.abs,cN] at this ⊢
 rw[h.len];exact this
 intro x m;obtain⟨z,d,rfl⟩:=dF.1 m;obtain⟨k,g⟩:=qv d;have b:=(cU.1 g).1
 rw[h.len] at b
 have c:=h.at_ k _ z (bE b) g
 have f:=a.wf.gk _ (dF.2 ⟨_,rO b,rfl⟩)
 have n:=a.br _ (rO b)
 have i:=j z d
 refine⟨?_,?_,?_,?_⟩;show 1≤z.pl.length∧z.pl.length≤4
 rw[lv z i.2];exact i
 exact (JK i.2).2 (c.br▸c.pos ((JK n.2).1 f.pos));show 1≤z.id∧z.id≤s.ids
 rw[c.id];exact f.id
 show z.dir.length≤256∧z.line.length≤256
 rw[c.dir,c.line];exact f.nV
 have c:=a.wf.pd
 have f: ((s.l.map bc.abs).map (·.id)).Pairwise (· < ·):=qx.2 c
 rw[n4,show ((λx=>x.id) ∘ bc.abs)=bc.id from rfl,←h.map bc.id (λe z d=>d.id)] at f
 show (M.map bc.abs).Pairwise _
 rw[qx];exact qx.1 f
theorem kc.ek {l M:List bc} (h:kc l M) (A:Option Addr) (c:Nat):ek A c M=ek A c l:=by
 show gz _ _ _ M.length _ (jJ.all (M.map bc.g))=_
 rw[h.len,h.map bc.g (λe z a=>a.g)]
def WB (s:cL) (N:Int) (w:World):Ending→World→Prop:=aP (λi:Int × cL=> .int .i64 i.1) (cT s) (λi=>cT i.2) (λi=>i.2.g=s.g∧i.2.most=s.most∧fF i.2 N) w
theorem JL {p:Prop} [Decidable p] (h: (!decide p)=false):p:=by simpa using h
structure WC where
 i:Nat
 M:List bc
 A:Option Addr
 m:Nat
 c:Nat
 L:List bl
theorem WD (w:World) (s:cL) (Ze:bb w (cT s)) {N:Int} (x:fF s N) (A:Option Addr) (n c0:Nat) (L:List bl) (H:Rd cq w (λk=>k∉aB (cT s)) A n c0 L) (Zt:n≤1000000):Calls prog 47 [ptr s.g,.slice A n c0].toArray w (WB s N w):=by
 have Zu:=x.len
 have S:=x.br
 have Zv:=H.len
 refine bI func47 ntmps47 Ze ?_;refine eT ?_;refine aZ (l0:=[]) aA.nil rfl zu rfl (λb d=>CO b s (d.has aQ) (d.has bF) (d.has cp) S aa) (λZw Zx=>?_);refine aC ?_;refine pt rfl (λZf=>?_) (λZf=>?_);refine aK ?_;intro I a;exact aP.bP (1,s) ⟨rfl,rfl,x⟩ rfl (a.aw (aA.cons cv (aA.cons cv (aA.cons cv aA.nil))));refine bo ?_;refine b3 (ι:=Nat) (λi=>[(0,ptr s.g),(1,.slice A n c0),(20,.slice A n c0),(21,.int .i64 (n:Int)),(22,.int .i64 (i:Int))]) (λ_=>af w (aB (cT s)) (cT s)) (λi=>i≤n∧ ∀k p,k<i→L[k]? = some p→di p) (λi=>n - i) ?_ ?_;exact λw' C=>⟨0,⟨bN _,λk p y=>absurd y (Nat.not_lt_zero k)⟩,(ec rfl rfl rfl rfl rfl),C.aw (aA.cons cv (aA.cons cv (aA.cons cv aA.nil)))⟩
 rintro i ⟨hi,T⟩;refine al ?_;refine pt rfl (λZg=>?_) (λZg=>?_);obtain⟨v,U⟩ : ∃v,L[i]? = some v:=⟨L[i]'aa,bE _⟩;obtain⟨v2,Zh⟩ : ∃v2,0<i→L[i - 1]? = some v2:=⟨(L[i - 1]?).getD ⟨0,0⟩,λh=>by rw[bE aa];rfl⟩;obtain⟨bX,V,W,X⟩:=H.cells aa;have Y:di v→ ∀k p,k<i+1→L[k]? = some p→di p:=λh k p y ai=>by
  rcases Nat.lt_succ_iff_lt_or_eq.1 y with f | f
  exact T k p f ai;rw[f,U] at ai;cases ai;exact h
 refine aC ?_;refine bD (q:=i) dQ rfl rfl rfl V rfl aa ?_;refine cw (vs:=v.enc) em rfl rfl rfl (λJ f j u D=>f.ct (X i v j u U D) (by simp only[block_add];exact W)) ?_;refine aq ?_;intro Zy Zz ZA;refine ay ?_;refine ew [0] 2 [[(1,false,[2,3,4,5,6,7,8,9,10,11,12]),(13,false,[14,15])]] (_) mixed ab (λ_ a=>a.drew) (λ_ h=>h) ?_;refine ah ?_;refine ao rfl zx rfl (λb d=>CD b v) ?_;refine bY (_) (λ_ h=> .inr h) (λ_ h=>h) ?_;refine ar ?_;refine my 30 rfl (λZi=>?_) (λZi=>?_);refine bw ?_;refine bY (λ_=>True) (λ_ h=> .inr ⟨.inr h,h⟩) (λ_ h=>aU) ?_;refine eT ?_;intro I a;exact aP.bP (1,s) ⟨rfl,rfl,x⟩ rfl (a.aw (aA.cons cv (aA.cons cv (aA.cons cv aA.nil))));refine ah ?_;refine my 33 rfl (λaH=>?_) (λaH=>?_);have Zj:=aY aH
 refine aS ?_;refine aL rfl (λZk Z=>cA rfl rfl (aH) (bD (q:=i - 1) dQ rfl rfl rfl V aa aa aG)) ?_;refine aL rfl (λZk Z=>cA rfl rfl (aH) (cw (vs:=v2.enc) em rfl rfl rfl (λJ Zl j u D=>by subst Zl;exact Z.ct (X (i - 1) v2 j u (Zh aa) D) (by simp only[block_add];exact W)) aG)) ?_;refine ar ?_;refine cA rfl rfl (aH) ?_;refine ao rfl uo rfl (λb d=>vA b v v2) ?_;refine bY (λ_=>True) (λ_ h=> .inr ⟨.inr h,h⟩) (λ_ h=>aU) ?_;refine ay ?_;refine pt rfl (λZm=>?_) (λZm=>?_);refine bw ?_;intro I a;exact aP.bP (1,s) ⟨rfl,rfl,x⟩ rfl (a.aw (aA.cons cv (aA.cons cv (aA.cons cv aA.nil))));refine aC ?_;exact bg (i+1) ⟨aa,Y (JL bz)⟩ aa (ec rfl rfl rfl rfl rfl) (λ_ h=>h.aw (aA.cons cv (aA.cons cv (aA.cons cv aA.nil))));have Zj:=a8 aH
 refine aK ?_;refine fW rfl rfl rfl (aH) ?_;refine bY (λ_=>True) (λ_ h=> .inr ⟨.inr h,h⟩) (λ_ h=>aU) ?_;refine bH ?_;exact bg (i+1) ⟨aa,Y (JL bz)⟩ aa (ec rfl rfl rfl rfl rfl) (λ_ h=>h.aw (aA.cons cv (aA.cons cv (aA.cons cv aA.nil))));have ZB:i=n:=by omega
 have Zn: ∀p∈L,di p:=λp ai=>by
  obtain⟨k,y⟩:=qv ai;have:=(cU.1 y).1
  exact T k p aa y
 refine ef ?_;refine b3 (ι:=WC) (λt=>[(1,.slice t.A t.m t.c),(47,.slice s.A s.l.length s.c),(48,.int .i64 (s.l.length:Int)),(49,.int .i64 (t.i:Int))]) (λt=>af w (aB (cT s)) [s.an,ek s.A s.c s.l,eQ t.M]) (λt=>t.i≤s.l.length∧kc s.l t.M∧Rd cq w (λk=>k∉aB (cT s)) t.A t.m t.c t.L∧ ∀p∈t.L,di p) (λt=>s.l.length - t.i) ?_ ?_;exact λw' C=>⟨⟨0,s.l,A,n,c0,L⟩,⟨bN _,kc.refl _,H,Zn⟩,(cu rfl rfl rfl rfl),C.aw (aA.cons bi (aA.cons bi (aA.cons bi aA.nil)))⟩
 rintro⟨j,M,ZC,m,c1,K⟩ ⟨D,B,G,O⟩;dsimp only at D B G O ⊢
 refine yy (A:=s.A) (m:=s.l.length) (c:=s.c) bF (λZo=>?_);refine al ?_;refine pt rfl (λZp=>?_) (λZp=>?_);obtain⟨e,P⟩ : ∃e,s.l[j]? = some e:=⟨_,bE aa⟩;obtain⟨z,Q,Za⟩:=B.get P;obtain⟨Zq,o,Zb⟩:=Zo.2.2 aa;have R:=S e (c8 P)
 rw[←Za.br] at R
 have ZD:=G.cap
 have ZE:=G.len
 obtain⟨r,Zr⟩ : ∃r,r=min m z.br:=⟨_,rfl⟩;obtain⟨Zc,Zd,Zs⟩:=WA z (K.take r) (by rw[dn];omega) R.2 (λp ai=>yA (O p (iu ai)));refine Cv (L:=M.map bc.an) (c:=z.an) (k:=j) pO (by rw[eJ,Q];rfl) ?_;refine al ?_;refine bD (q:=j) kZ rfl rfl rfl Zb rfl aa ?_;refine ba (v:=ptr z.g) m9 rfl rfl (λJ f=>by rw[Za.g];exact nW (show (ek (some ⟨Zq,o,none⟩) s.c s.l).pred J from Zb▸(f.has (c:=ek s.A s.c s.l) hD)) P) ?_;refine al ?_;refine ao rfl wB rfl (λb d=>yD b z (d.has aQ) R.2) ?_;refine aq ?_;refine Jp (E:=cq) (src:=K) (g:=z.g) (o:=6) (xs:=kM z) (te:=150) (F:=λk=>k∉aB (cT s)) r Zr dQ rfl rfl rfl (by rw[Zs];exact cz) (λw' C=>G.ext C.ext (λ_ h=>h)) (by show 6+z.br*2≤15;omega) ?_;refine al ?_;refine fh r m dQ rfl rfl (.inl ⟨_,_,rfl,rfl,rfl⟩) (.inr ⟨rfl,rfl⟩) aa aa ?_;refine aK ?_;exact bg ⟨j+1,M.set j Zc,_,m - r,c1 - r,(K.take m).drop r⟩ ⟨by dsimp only;omega,B.set Q Zd,G.cut aa (cd _),λp ai=>O p (iu (lC ai))⟩ (by dsimp only;omega) (cu rfl rfl rfl rfl) (λ_ h=>(af.CG (z:=Zc) (by rw[bc.an,Zd.g];exact h.aw (aA.cons bi (aA.cons bi (aA.cons bi (aA.cons bi aA.nil))))) Q).aw (aA.cons cv (aA.cons cv (aA.cons bi aA.nil))));refine bw ?_;intro I a;refine aP.bP (0,{ s with l:=M }) ⟨rfl,rfl,B.ok x⟩ rfl ?_;simp only[cT,cL.an,rz,B.ek,B.len];exact a.aw (aA.cons bi (aA.cons bi (aA.cons bi aA.nil)))
end Go.Proofs.YtkeokgcdnfjaaaaGreatDoor.Mq
