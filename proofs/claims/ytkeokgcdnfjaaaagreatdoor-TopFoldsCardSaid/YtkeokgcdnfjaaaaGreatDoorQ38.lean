/- part 38 of the proof -/
import Derived.Test.YtkeokgcdnfjaaaaGreatDoorQ37
namespace Go.Proofs.YtkeokgcdnfjaaaaGreatDoor.Mq
open Go Go.RowKit Go.Proofs Tryz
section
def bT.hq (s:bT):List eC:=ka s.st.abs ⟨s.rows,0⟩
theorem cD.hq [Inhabited et] {s:bT} {m:Nat} {N:Int} (h:cD s m N):s.hq.length≤10001∧ ∀b∈s.hq,ql b:=by
 have a:=h.st.len
 have c:=h.ring
 have d:=h.small
 refine⟨?_,VZ h.st.wf ⟨⟨?_,?_⟩,?_,?_⟩⟩;rw[bT.hq,Jt];simp only[cL.abs,cN];omega
 simp only[bT.rows];omega
 simp only[bT.rows];omega
 exact mU 0;exact (by decide: (0 :Int)≤4398046511104)
section
variable {w:World} {s:bT}
theorem Kh [Inhabited et] (h: (aT (cQ s)).pred w):s.st.an.pred w:=CX h _ av
theorem Ki [Inhabited et] (h: (aT (cQ s)).pred w): (ek s.st.A s.st.c s.st.l).pred w:=CX h _ av
theorem Kj [Inhabited et] (h: (aT (cQ s)).pred w): (eQ s.st.l).pred w:=CX h _ av
end
theorem yQ [Inhabited et] (w:World) (s:bT) {m:Nat} {N:Int} (c:cD s m N) (a: (aT (cQ s)).pred w):Calls prog 9 [ptr s.g].toArray w (aP (λz:rA=>z.val) [] (λz=>[z.au]) (λz=>z.l=s.hq) w):=by
 have e:=pg a
 have k:=c.st.len
 refine aW func9 ntmps9 ?_;refine dB ?_;refine bG [0,1,2,3,4] 2 [[(5,false,[]),(6,true,[7])]] ?_;refine ah ?_;refine aL rfl (λn f=>(ba DN rfl rfl (λo h=>by subst h;exact f.bV e (by (simp;done)) rfl) aG)) ?_;refine ah ?_;refine ao rfl wz rfl (λd b=>yO d s c (Chunk.dA _ a b.ext)) ?_;refine ah ?_;refine aZ (l0:=[]) aA.nil rfl D0 rfl (λd b=>JP d s.st (Chunk.dA _ (Kh a) b.ext) (Chunk.dA _ (Ki a) b.ext) (Chunk.dA _ (Kj a) b.ext) c.st.br aa ⟨s.rows,0⟩) (λz i=>?_);refine aC ?_;intro p j;exact aN z i j
theorem tM [Inhabited et] (w:World) (s:bT) {m:Nat} {N:Int} (c:cD s m N) (a: (aT (cQ s)).pred w) (id:Int):Calls prog 40 [ptr s.g,.int .u64 id].toArray w (Pure (rC (kb s.st.abs id ⟨s.rows,0⟩)) w):=by
 have f:=pg a
 have l:=c.st.len
 have h: ∃v:eC,∃o:Bool,rC (kb s.st.abs id ⟨s.rows,0⟩)= .tuple #[.agg v.enc.toArray,.bool o]:=by
  cases kb s.st.abs id ⟨s.rows,0⟩ with
  | none=>exact⟨_,_,rfl⟩
  | some v=>exact⟨v,true,rfl⟩
 obtain⟨v,o,e⟩:=h;rw[e];refine aW func40 ntmps40 ?_;refine ah ?_;intro n p q;refine b5 ?_;refine bG [0,1,2,3,4,5] 3 [[(6,false,[]),(7,false,[8,9]),(10,true,[11])]] ?_;refine ah ?_;refine aL rfl (λr i=>(ba DN rfl rfl (λt j=>by subst j;exact i.bV f (by (simp;done)) rfl) aG)) ?_;refine aS ?_;refine ao rfl wz rfl (λd b=>yO d s c (Chunk.dA _ a b.ext)) ?_;refine ah ?_;refine ao rfl Mr rfl (λd b=>e▸WH d s.st (Chunk.dA _ (Kh a) b.ext) (Chunk.dA _ (Ki a) b.ext) (Chunk.dA _ (Kj a) b.ext) c.st.br aa id ⟨s.rows,0⟩) ?_;refine ay ?_;refine eX (vs:=v.enc) gp rfl rfl (bn.whole cz a7) rfl (aI.cons rfl (aI.cons rfl (aI.cons rfl (aI.cons rfl (aI.cons rfl (aI.cons rfl (aI.cons rfl (fY rfl rfl rfl rfl rfl rfl rfl rfl rfl rfl)))))))) (by exact dT rfl) ?_;refine al ?_;refine h_ results40 (cx.eR gp rfl aQ rfl rfl) (cx.tmp rfl) (λu k=>?_);exact⟨rfl,k.ext⟩
def qo (es:Array MapEntry) (b:eC):Option gC:=if foldI es b.id=0 then none else some ⟨if b.output.dm>0 then b.output.row+1 else b.output.row,b.done.row,b.id⟩
def rF (es:Array MapEntry) (l:List eC):List gC:=l.filterMap (qo es)
theorem XB (es:Array MapEntry) {l:List eC} {i:Nat} {b:eC} (h:l[i]? = some b):rF es (l.take (i+1))=rF es (l.take i)++(qo es b).toList:=by
 unfold rF;rw[fU,h,List.filterMap_append];cases a:qo es b <;> simp[a]
theorem Kk (es:Array MapEntry) (l:List eC): (rF es l).length≤l.length:=List.length_filterMap_le _ _
def bT.fds (s:bT):List gC:=hT s.rows 0 (rF s.es s.hq)
theorem XC [Inhabited et] (w:World) (s:bT) {m:Nat} {N:Int} (d:cD s m N) (e: (aT (cQ s)).pred w):Calls prog 28 [ptr s.g].toArray w (aP (λz:nX=>z.val) [] (λz=>[z.au]) (λz=>z.l=s.fds) w):=by
 have F:=pg e
 have D:=d.hq
 refine aW func28 ntmps28 ?_;refine b5 ?_;refine aZ (l0:=[]) aA.nil rfl wx rfl (λa b=>yQ a s d (Chunk.dA _ e b.ext)) (λz p=>?_);refine aS ?_;have T:z.l.length≤10001:=p▸D.1
 refine cG (H':=af w [] [nX.au ⟨none,0,[]⟩,z.au]) ?_ (Sub.refl _) (λx G=>G.eO 141 mf);refine aq ?_;refine b3 (ι:=Nat × nX) (λt=>[(0,ptr s.g),(3,t.2.val),(8,z.val),(9,.int .i64 (z.l.length:Int)),(10,.int .i64 (t.1 :Int))]) (λt=>af w [] [t.2.au,z.au]) (λt=>t.1≤z.l.length∧t.2.l=rF s.es (z.l.take t.1)) (λt=>z.l.length - t.1) ?_ ?_;exact λw' H=>⟨(0,⟨none,0,[]⟩),⟨bN _,rfl⟩,(ec rfl rfl rfl rfl rfl),H.aw ae⟩
 rintro⟨i,y⟩ ⟨hi,f⟩;dsimp only at hi f ⊢
 have U:y.l.length≤i:=by
  have:=Kk s.es (z.l.take i)
  rw[dn] at this
  rw[f];omega
 refine al ?_;refine aj (λI=>?_) (λI=>?_);obtain⟨v,r⟩ : ∃v,z.l[i]? = some v:=⟨_,bE aa⟩;have V:=(D.2 v (p▸c8 r)).output
 have n:=XB s.es r
 rw[←f] at n
 refine al ?_;refine iL (E:=hp) bF kl rfl rfl rfl a7 aa (λW J=>?_);refine cw (vs:=v.enc) gp rfl rfl rfl (λX K j u L=>K.gx (E:=hp) bF J r j u L) ?_;refine aq ?_;intro Y Z Za;refine eX (vs:=v.enc) gp rfl rfl (bn.whole cz a7) rfl (aI.cons rfl (aI.cons rfl (aI.cons rfl (aI.cons rfl (aI.cons rfl (aI.cons rfl (aI.cons rfl (fY rfl rfl rfl rfl rfl rfl rfl rfl rfl rfl)))))))) (by exact dT rfl) ?_;refine aS ?_;refine bG [0,1,2,3,4,5] 1 [[(6,false,[7])]] ?_;refine ah ?_;refine aL rfl (λZb B=>(ba LF rfl rfl (λM C=>by subst C;exact B.bV F (by (simp;done)) rfl) aG)) ?_;refine aS ?_;refine Xx (es:=s.es) (ck:=s.ck) (k:=v.id) underlying80 underlying34 bM d.mp rfl rfl rfl (λM C=>by exact Chunk.dA _ (XA e) C.ext) ?_;refine ay ?_;refine aj (λo=>?_) (λo=>?_);refine aK ?_;exact bg (i+1,y) ⟨aa,by dsimp only;rw[n,qo,ax o];simp⟩ bm bO (λ_ h=>h.aw ae);refine eG ?_;refine aj (λO=>?_) (λO=>?_);refine cE ?_;refine dx (E:=mf) ⟨_,_,_⟩ oo rfl rfl rfl rfl rfl (λP Q R=>?_);refine er (E:=mf) oo rfl rfl rfl bi (λ_ _=>eo) b4 b4 (λZc Zd=>?_);refine aK ?_;exact bg (i+1,⟨_,_,y.l++[⟨_,v.done.row,v.id⟩]⟩) ⟨aa,by dsimp only;rw[n,qo,ag o];rw[ax aa];rfl⟩ bm (ec rfl rfl rfl rfl rfl) (λ_ h=>h.aw ae);refine bo ?_;refine dx (E:=mf) ⟨_,_,_⟩ oo rfl rfl rfl rfl rfl (λP Q R=>?_);refine er (E:=mf) oo rfl rfl rfl bi (λ_ _=>eo) b4 b4 (λZe Zf=>?_);refine aK ?_;exact bg (i+1,⟨_,_,y.l++[⟨_,v.done.row,v.id⟩]⟩) ⟨aa,by dsimp only;rw[n,qo,ag o];rw[ag aa];rfl⟩ bm (ec rfl rfl rfl rfl rfl) (λ_ h=>h.aw ae);refine aK ?_;refine ao rfl zr rfl (λa b=>CZ a s d (Chunk.dA _ e b.ext)) ?_;refine aq ?_;refine aZ (l0:=[]) aA.nil rfl Mi rfl (λa b=>WO a _ y.A y.l.length y.c y.l (gT (b.has (c:=y.au) aQ)) aa s.rows) (λq B=>?_);refine ay ?_;intro Zg S;exact aN q (by rw[B,f,eu aa,p];rfl) S
end
def bT.ly (s:bT):List gD:=kP s.rows 0 s.fds
theorem yR: ∀(l:List gD) (a b:Int),ip a l b→a≤b∧ ∀x∈l,a≤x.row∧0≤x.hid∧x.row+max 1 x.hid≤b
 | [],a,b,h=>⟨by unfold ip at h;omega,by simp⟩
 | x::l,a,b,h=>by
  obtain⟨f,g,i,d⟩:=h;obtain⟨j,e⟩:=yR l _ b d;refine⟨aa,λy c=>?_⟩;rcases eD.1 c with rfl | c
  omega
  have:=e y c
  omega
theorem cD.rw[Inhabited et] {s:bT} {m:Nat} {N:Int} (h:cD s m N):0≤s.rows∧s.rows≤200:=by
 have a:=h.ring
 have b:=h.small
 unfold bT.rows;omega
theorem cD.hH {s:bT} {m:Nat} {N:Int} (h:cD s m N): ∀f∈s.fds,f.id≠0:=λf d=>by
 obtain⟨g,i,e,_⟩:=yF _ _ _ f d;obtain⟨b,_,a⟩:=List.mem_filterMap.1 i;unfold qo at a
 split at a
 cases a
 rename_i j;injection a with a
 subst a;intro c;rw[e] at c
 exact j (by dsimp only at c;rw[c];exact Xw h.mp)
theorem cD.right {s:bT}:fw s.rows 0 s.fds=true:=CQ _ _ _
theorem cD.ip [Inhabited et] {s:bT} {m:Nat} {N:Int} (h:cD s m N):ip 0 s.ly s.rows:=JQ _ _ _ h.rw.1 cD.right h.hH
theorem C1 (rows:Int): ∀(l:List gC) (e:Int),(hT rows e l).length≤l.length
 | [],_=>cd _
 | f::l,e=>by
  unfold hT;split
  have:=C1 rows l (min f.b rows)
  simp only[eK];omega
  have:=C1 rows l e
  simp only[eK];omega
theorem cD.XD [Inhabited et] {s:bT} {m:Nat} {N:Int} (h:cD s m N):s.fds.length≤10001:=by
 have a:=C1 s.rows (rF s.es s.hq) 0
 have b:=Kk s.es s.hq
 have c:=h.hq.1
 unfold bT.fds;omega
theorem cD.yS [Inhabited et] {s:bT} {m:Nat} {N:Int} (h:cD s m N):s.ly.length≤200:=by
 have a:=JS s.rows s.fds 0 h.rw.1 cD.right
 have b:=h.rw
 unfold bT.ly;omega
theorem cD.Kl [Inhabited et] {s:bT} {m:Nat} {N:Int} (h:cD s m N): ∀x∈s.ly,tG x:=λx a=>by
 have b:=(yR _ _ _ h.ip).2 x a
 have c:=h.rw
 unfold tG;omega
theorem yT [Inhabited et] (w:World) (s:bT) {m:Nat} {N:Int} (d:cD s m N) (e: (aT (cQ s)).pred w):Calls prog 8 [ptr s.g].toArray w (aP (λz:lx=>z.val) [] (λz=>[z.au]) (λz=>z.l=s.ly) w):=by
 have j:=pg e
 have k:=d.rw
 have n:=d.XD
 refine aW func8 ntmps8 ?_;refine eT ?_;refine ao rfl zr rfl (λa b=>CZ a s d (Chunk.dA _ e b.ext)) ?_;refine aq ?_;refine aZ (l0:=[]) aA.nil rfl L5 rfl (λa b=>XC a s d (Chunk.dA _ e b.ext)) (λy f=>?_);refine aZ (l0:=[]) aA.nil rfl L4 rfl (λa b=>WR a _ y.A y.l.length y.c y.l (gT (b.has (c:=y.au) aQ)) (by rw[f];omega) s.rows aa (by rw[f];exact cD.right)) (λz h=>?_);refine cE ?_;intro o i;exact aN z (by rw[h,f];rfl) i
abbrev ch [Inhabited et] (s:bT):Chunk:=aT (cQ s)
theorem XE {s:bk} (h:dS s): (∀x∈s.ap.r.rows,x.1.length≤1000000)∧ ∀x∈bW s.ap.s.l,x.1.length≤1000000:=by
 have ai:cZ s.ap.abs:=h.ok.bC
 refine⟨λx a=>?_,λx a=>?_⟩;have:=(ai.nv x a).1
 have:=ai.cols
 omega
 have:=(ai.wide x a).1
 have:=ai.cols
 omega
theorem C2 [Inhabited et] (w:World) (s:bT) {m:Nat} {N:Int} (k:cD s m N) (i:bb w [ch s]):Calls prog 12 [ptr s.g].toArray w (aP (λz:db=>z.val) [ch s] (λz=>[ch s,z.au,z.cc]) (λz=>bW z.l=s.ap.r.rows++bW s.ap.s.l) w):=by
 have o: (aT (cQ s)).pred w:=i.all _ av
 have d:=k.T.first
 have e:=XE d
 have j:=d.small
 have c: ∀a,(af w (aB [ch s]) [ch s] a)→(aT (cQ s)).pred a:=λa b=>b.all _ av
 refine bI func12 ntmps12 i ?_;obtain⟨g,top,dk,b7,p,⟨am,bj,use,b6,cg,bL,buf,aF⟩,st,cW,dp,es,ck⟩:=s;cases use
 refine aK ?_;refine ao rfl wy rfl (λa b=>yN a _ (c a b)) ?_;refine ao rfl ot rfl (λa b=>o3 a _ _ _ (vU (c a b))) ?_;refine ao rfl jO rfl (λa b=>jW a _ (vV (c a b))) ?_;refine k5 (lc:=cQ ⟨g,top,dk,b7,p,⟨am,bj,false,b6,cg,bL,buf,aF⟩,st,cW,dp,es,ck⟩) bi<| k5 (lc:=fe p b7 p.g ⟨am,bj,false,b6,cg,bL,buf,aF⟩) cv<| k5 (lc:=aO am) pO<| aZ (l0:=bB am.ap) ae rfl zt rfl (λa b=>BK a am.ap (b.bp ae) d.g.r e.1 e.2 (by have:am.ap.s.l.length≤100:=j.1;omega)) (λz f=>?_)
 refine ay ?_;intro n h;exact aP.bP z f rfl ((((h.close (l:=aO am) ae).close (l:=fe p b7 p.g ⟨am,bj,false,b6,cg,bL,buf,aF⟩) ae).close (l:=cQ ⟨g,top,dk,b7,p,⟨am,bj,false,b6,cg,bL,buf,aF⟩,st,cW,dp,es,ck⟩) ae).aw ae);refine aK ?_;refine ao rfl wy rfl (λa b=>yN a _ (c a b)) ?_;refine ao rfl ot rfl (λa b=>o3 a _ _ _ (vU (c a b))) ?_;refine ao rfl jO rfl (λa b=>jW a _ (vV (c a b))) ?_;refine k5 (lc:=cQ ⟨g,top,dk,b7,p,⟨am,bj,true,b6,cg,bL,buf,aF⟩,st,cW,dp,es,ck⟩) bi<| k5 (lc:=fe p b7 p.g ⟨am,bj,true,b6,cg,bL,buf,aF⟩) cv<| k5 (lc:=aO bj) oy<| aZ (l0:=bB bj.ap) ae rfl zt rfl (λa b=>BK a bj.ap (b.bp ae) d.g.r e.1 e.2 (by have:bj.ap.s.l.length≤100:=j.1;omega)) (λz f=>?_)
 refine ay ?_;intro n h;exact aP.bP z f rfl ((((h.close (l:=aO bj) ae).close (l:=fe p b7 p.g ⟨am,bj,true,b6,cg,bL,buf,aF⟩) ae).close (l:=cQ ⟨g,top,dk,b7,p,⟨am,bj,true,b6,cg,bL,buf,aF⟩,st,cW,dp,es,ck⟩) ae).aw ae)
theorem XF [Inhabited et] (w:World) (s:bT) {m:Nat} {N:Int} (e:cD s m N) (f: (aT (cQ s)).pred w):Calls prog 11 [ptr s.g].toArray w (aP (λt:lx × Int=> .tuple #[t.1.val,.int .i64 t.2]) [] (λt=>[t.1.au]) (λt=>(t.1.l.length:Int)=min (s.ly.length:Int) (s.ap.s.l.length:Int)∧0≤t.2∧t.2+t.1.l.length≤s.ly.length) w):=by
 have o:=pg f
 have p:=e.yS
 have q:=e.small
 refine aW func11 ntmps11 ?_;refine eG ?_;refine aZ (l0:=[]) aA.nil rfl wv rfl (λb d=>yT b s e (Chunk.dA _ f d.ext)) (λz h=>?_);refine aq ?_;have i:z.l.length=s.ly.length:=aX List.length h
 refine aC ?_;refine aZ (l0:=[]) aA.nil rfl zs rfl (λb d=>C0 b s e (Chunk.dA _ f d.ext) z.A z.l.length z.c aa) (λa j=>?_);refine aq ?_;refine ao rfl D1 rfl (λb d=>Kg b s (Chunk.dA _ f d.ext)) ?_;refine aZ (l0:=[]) aA.nil rfl L6 rfl (λb d=>WM b _ z.A z.l.length z.c z.l (gT (d.has (c:=z.au) aQ)) aa a (s.ap.s.l.length:Int) (by have:=j.2;unfold bT.most at this;omega) aa) (λt k=>?_);refine aK ?_;intro r n;exact aN t (by rw[←i];exact k) n
def vW [Inhabited et] (s:bT) (m:Nat) (N:Int) {ι:Type} (v:ι→Value) (w:World):Ending→World→Prop:=aP (λi:ι × bT=>v i.1) [ch s] (λi=>[ch i.2]) (λi=>i.2.g=s.g∧cD i.2 m N) w
theorem cD.Km {s:bT} {m:Nat} {N:Int} (h:cD s m N) {t:Int} (f:Bool) (a:0≤t∧t≤1000000):cD { s with top:=t,dk:=f } m N:=⟨h.par,h.T,h.st,h.cW,h.mp,a⟩
theorem Kn [Inhabited et] (w:World) (s:bT) {m:Nat} {N:Int} (a:cD s m N) (f:bb w [ch s]) (A:Option Addr) (n c:Nat) (e:n≤1000000) (y:Int):Calls prog 51 [ptr s.g,.slice A n c,.int .i64 y].toArray w (vW s m N (λ_:Unit=> .tuple #[]) w):=by
 have o:=a.small
 have p:0≤s.most n∧s.most n≤1000000:=by unfold bT.most;omega
 have i:=a.Km s.dk (t:=max 0 (min y (s.most n))) aa
 refine calls (n:=29) func51 rfl ntmps51 rfl ?_;refine cG (H':=af w (aB [ch s]) (cQ s)) ?_ (Sub.refl _) (λx j=>by have h:=(f.start x j).open (l:=cQ s) bi;rwa [fJ] at h);refine al ?_;refine ao rfl wA rfl (λb d=>yP b s a d.all A n c e) ?_;refine aK ?_;refine bG [0,1,2,3,4,5,6,7] 2 [[(8,false,[9,10,11,12]),(13,true,[])]] ?_;refine aR ?_;refine ao rfl wA rfl (λb d=>yP b { s with top:=max 0 (min y (s.most n)) } i d.all A n c e) ?_;refine bw ?_;intro q k;exact aP.bP ((),{ s with top:=max 0 (min y (s.most n)),dk:=_ }) ⟨rfl,a.Km _ aa⟩ rfl (k.close (l:=cQ { s with top:=max 0 (min y (s.most n)),dk:=_ }) ae)
theorem XG {α:Type} {E:bA α} {b w:World} {S:List Nat} {cs cs':List Chunk} {e:TypeId} {A:Option Addr} {c:Nat} {L:List α} {c0:Chunk} (h:af b S cs w) (g:bv cs (au e E A c L) cs') (i:Has cs' c0):Rd E w (λk=>k∉aB [c0]) A L.length c L:=by
 have a:=h.perm g.perm
 have d:=a.nodup
 rw[ff,fK] at d
 obtain⟨dE,c9,j,l⟩:=Rd.fX (E:=E) (show w.ownsRow 0 e E.sz (.slice A L.length c) L.length (E.all L) from a.has Has.head) rfl;injection j with m _ n
 subst m n;refine l.dC (λk o f=>?_);rw[show aB [c0]=c0.ce by simp[aB]] at f
 exact d.2.2 k (iV.2 o) k (e4.2 ⟨c0,i.mem,f⟩) rfl
theorem XH [Inhabited et] (w:World) (s:bT) {m:Nat} {N:Int} (b:cD s m N) (f:bb w [ch s]) (k:Int):Calls prog 24 [ptr s.g,.int .i64 k].toArray w (vW s m N (λ_:Unit=> .tuple #[]) w):=by
 have p:=b.small
 have r:=b.yS
 refine bI func24 ntmps24 f ?_;refine aR ?_;refine aZ (l0:=[]) aA.nil rfl wv rfl (λd e=>yT d s b (e.has aQ)) (λz h=>?_);refine aq ?_;have t:z.l.length=s.ly.length:=aX List.length h
 refine aC ?_;refine aZ (l0:=[]) aA.nil rfl zs rfl (λd e=>C0 d s b (e.has bF) z.A z.l.length z.c aa) (λa j=>?_);refine ah ?_;have u:0≤a∧a≤1000000:=by unfold bT.most at j;omega
 refine aq ?_;refine aZ (ι:=Unit × bT) (v:=λ_=> .tuple #[]) (l':=λi=>[ch i.2]) (ok:=λi=>i.2.g=s.g∧cD i.2 m N) (l0:=[ch s]) ae rfl D6 rfl (λd e=>Kn d s b (e.bp ae) z.A z.l.length z.c aa _) (λq n=>?_);refine ar ?_;intro x o;exact aN q n o
theorem cD.high [Inhabited et] {s:bT} {m:Nat} {N:Int} (h:cD s m N):1≤s.ap.s.l.length:=by
 have ai:cZ s.ap.abs:=h.T.first.ok.bC
 have:=ai.rows.1
 simpa [bq.abs] using this
theorem XI [Inhabited et] (w:World) (s:bT) {m:Nat} {N:Int} (d:cD s m N) (C:bb w [ch s]) (k:Int) (D: -9223372036854775808≤k∧k≤9223372036854775807) (A:Option Addr) (n c:Nat) (L:List Int) (F:Rd bS w (λk=>k∉aB [ch s]) A n c L) (G:n≤100000):Calls prog 49 [ptr s.g,.int .i64 k,.slice A n c].toArray w (vW s m N (λi:Int=> .int .i64 i) w):=by
 have R:=d.small
 have S:=d.yS
 have T:=d.high
 refine bI func49 ntmps49 C ?_;refine aK ?_;refine aZ (l0:=[]) aA.nil rfl wv rfl (λe f=>yT e s d (f.has aQ)) (λz B=>?_);refine aq ?_;have U:z.l.length=s.ly.length:=aX List.length B
 refine aJ ?_;refine aV 17 rfl (λu=>?_) (λu=>?_);have H:=aY u
 refine b5 ?_;intro p o;exact aN (5,s) ⟨rfl,d⟩ o;have H:=a8 u
 refine aC ?_;refine aj (λaH=>?_) (λaH=>?_);refine aK ?_;intro p o;exact aN (5,s) ⟨rfl,d⟩ o;refine aC ?_;refine aZ (l0:=[]) aA.nil rfl zs rfl (λe f=>C0 e s d (f.has bF) z.A z.l.length z.c aa) (λa I=>?_);have V:0≤a∧a<z.l.length:=by unfold bT.most at I;omega
 obtain⟨j,J⟩ : ∃j:Nat,a=(j:Int):=⟨a.toNat,aa⟩;obtain⟨v,K⟩ : ∃v,z.l[j]? = some v:=⟨_,bE aa⟩;refine iL (E:=kO) (q:=j) aQ om rfl rfl rfl J aa (λW M=>?_);refine aq ?_;refine ba bM rfl rfl (λX O=>O.gx (E:=kO) aQ M K 0 _ rfl) ?_;refine aK ?_;refine aZ (l0:=[]) aA.nil rfl Mu rfl (λe f=>W5 e _ A n c L (F.ext f.ext (λ_ h=>h)) G _ k D) (λr _=>?_);refine aC ?_;refine aZ (l0:=[]) aA.nil rfl Mv rfl (λe f=>WL e _ z.A z.l.length z.c z.l (gT (f.has (c:=z.au) aQ)) (B▸d.Kl) aa r) (λ⟨t,b⟩ Y=>?_);refine b5 ?_;refine aV 41 rfl (λx=>?_) (λx=>?_);have P:=aY x
 refine b5 ?_;intro p o;exact aN (5,s) ⟨rfl,d⟩ o;have P:=a8 x
 refine aC ?_;refine b2 rfl (λy=>?_) (λy=>?_);simp only[bU] at y
 refine aK ?_;intro p o;exact aN (5,s) ⟨rfl,d⟩ o;simp only[bU] at y
 refine aC ?_;refine aZ (ι:=Unit × bT) (v:=λ_=> .tuple #[]) (l':=λi=>[ch i.2]) (ok:=λi=>i.2.g=s.g∧cD i.2 m N) (l0:=[ch s]) ae rfl D6 rfl (λe f=>Kn e s d (f.bp ae) z.A z.l.length z.c aa _) (λq Q=>?_);refine aJ ?_;intro p o;exact aN (0,q.2) Q o
theorem XJ [Inhabited et] (w:World) (s:bT) {m:Nat} {N:Int} (d:cD s m N) (e:bb w [ch s]) (k j:Int) (f: -9223372036854775808≤k∧k≤9223372036854775807):Calls prog 23 [ptr s.g,.int .i64 k,.int .i64 j].toArray w (vW s m N (λi:Int=> .int .i64 i) w):=by
 have h:=d.hq.1
 refine bI func23 ntmps23 e ?_;refine aR ?_;refine aZ (l0:=[]) aA.nil rfl wx rfl (λb a=>yQ b s d (a.has aQ)) (λz n=>?_);have r:z.l.length≤10001:=by rw[n];exact h
 refine aq ?_;refine aZ (l0:=[]) aA.nil rfl Me rfl (λb a=>W4 b _ z.A z.l.length z.c z.l (gT (a.has (c:=z.au) aQ)) aa j) (λy t=>?_);refine aZ (ι:=Int × bT) (v:=λi=> .int .i64 i.1) (l':=λi=>[ch i.2]) (ok:=λi=>i.2.g=s.g∧cD i.2 m N) (l0:=[ch s]) ae rfl Md rfl (λb a=>XI b s d (a.bp ae) k f y.A y.l.length y.c y.l (XG a (c0:=ch s) (L:=y.l) bi bF) aa) (λq o=>?_);refine ay ?_;intro u p;exact aN q o p
theorem XK [Inhabited et] (w:World) (s:bT) {m:Nat} {N:Int} (a:cD s m N) (r:bb w [ch s]) (id:Int) (k:Bool):Calls prog 22 [ptr s.g,.int .u64 id,.bool k].toArray w (vW s m N (λi:Int=> .int .i64 i) w):=by
 have t: ∃v:eC,∃o:Bool,rC (kb s.st.abs id ⟨s.rows,0⟩)= .tuple #[.agg v.enc.toArray,.bool o]:=by
  cases kb s.st.abs id ⟨s.rows,0⟩ with
  | none=>exact⟨_,_,rfl⟩
  | some v=>exact⟨v,true,rfl⟩
 obtain⟨v,o,n⟩:=t;refine bI func22 ntmps22 r ?_;cases k
 refine aR ?_;refine ao rfl sc rfl (λh j=>n▸tM h s a (j.has aQ) id) ?_;refine aS ?_;intro u x y;refine eX (vs:=v.enc) gp rfl rfl (bn.whole cz a7) rfl (aI.cons rfl (aI.cons rfl (aI.cons rfl (aI.cons rfl (aI.cons rfl (aI.cons rfl (aI.cons rfl (fY rfl rfl rfl rfl rfl rfl rfl rfl rfl rfl)))))))) (by exact dT rfl) ?_;refine aK ?_;refine aV 17 rfl (λz=>?_) (λz=>?_);refine b5 ?_;intro e b;exact aN (5,s) ⟨rfl,a⟩ b;refine aC ?_;refine aj (λaH=>?_) (λaH=>?_);refine aK ?_;intro e b;exact aN (5,s) ⟨rfl,a⟩ b;refine aK ?_;refine b2 rfl (λp=>?_) (λp=>?_);refine sr (lc:=cQ s) cv ?_;refine al ?_;refine Ke underlying80 underlying34 a.mp bz rfl rfl rfl (λ_ _=>jb) (λc d f=>?_);refine aJ ?_;intro e b;exact aP.bP (0,{ s with es:=c,ck:=d }) ⟨rfl,a.par,a.T,a.st,a.cW,f,a.top⟩ rfl ((b.close (l:=cQ { s with es:=c,ck:=d }) ae).aw ae);simp only[bU] at p
 refine sr (lc:=cQ s) cv ?_;refine al ?_;refine Kf underlying80 underlying34 a.mp rfl rfl (λ_ _=>jb) (λc d f=>?_);refine aJ ?_;intro e b;exact aP.bP (0,{ s with es:=c,ck:=d }) ⟨rfl,a.par,a.T,a.st,a.cW,f,a.top⟩ rfl ((b.close (l:=cQ { s with es:=c,ck:=d }) ae).aw ae);refine aR ?_;refine ao rfl sc rfl (λh j=>n▸tM h s a (j.has aQ) id) ?_;refine aS ?_;intro u x y;refine eX (vs:=v.enc) gp rfl rfl (bn.whole cz a7) rfl (aI.cons rfl (aI.cons rfl (aI.cons rfl (aI.cons rfl (aI.cons rfl (aI.cons rfl (aI.cons rfl (fY rfl rfl rfl rfl rfl rfl rfl rfl rfl rfl)))))))) (by exact dT rfl) ?_;refine aK ?_;refine aV 17 rfl (λA=>?_) (λA=>?_);refine b5 ?_;intro e b;exact aN (5,s) ⟨rfl,a⟩ b;refine aC ?_;refine aj (λB=>?_) (λB=>?_);refine aK ?_;intro e b;exact aN (5,s) ⟨rfl,a⟩ b;refine aK ?_;refine b2 rfl (λq=>?_) (λq=>?_);simp only[bU] at q
 refine sr (lc:=cQ s) cv ?_;refine al ?_;refine Ke underlying80 underlying34 a.mp bz rfl rfl rfl (λ_ _=>jb) (λc d f=>?_);refine aJ ?_;intro e b;exact aP.bP (0,{ s with es:=c,ck:=d }) ⟨rfl,a.par,a.T,a.st,a.cW,f,a.top⟩ rfl ((b.close (l:=cQ { s with es:=c,ck:=d }) ae).aw ae);refine sr (lc:=cQ s) cv ?_;refine al ?_;refine Kf underlying80 underlying34 a.mp rfl rfl (λ_ _=>jb) (λc d f=>?_);refine aJ ?_;intro e b;exact aP.bP (0,{ s with es:=c,ck:=d }) ⟨rfl,a.par,a.T,a.st,a.cW,f,a.top⟩ rfl ((b.close (l:=cQ { s with es:=c,ck:=d }) ae).aw ae)
theorem XL {c:bh} (h:c.more.length≤32): (oE c).length≤36:=by
 unfold oE;split
 simp
 split
 simp
 have:=As c.r
 rw[b0];omega
theorem Ko [Inhabited et] {L:List bh} (h: ∀x∈L,x.more.length≤32) (row:Nat) (en:bl) (a:Nat): ∀k,(ie L row en a k).length≤36*k
 | 0=>by simp[ie]
 | k+1=>by
  have d:=Ko h row en a k
  rw[ie,b0];split
  simp only[jL];omega
  cases b:L[k]? with
  | none=>simp only[jL];omega
  | some c=>
   have:=XL (h c (c8 b))
   simp only[q1];split
   omega
   simp only[jL];omega
abbrev vX (rows:List bQ):Prop:= ∀r∈rows,r.1.length≤100∧ ∀x∈r.1,x.more.length≤32
theorem XM {rows:List bQ} (h:vX rows) (k:Nat): (k9 rows k).length≤100∧ ∀x∈k9 rows k,x.more.length≤32:=by
 unfold k9;cases a:rows[k]? with
 | none=>simp
 | some r=>exact h r (c8 a)
theorem Kp [Inhabited et] {rows:List bQ} (h:vX rows) (fr to en:bl) (l0:Nat): ∀k,(jd rows fr to en l0 k).length≤3600*(k - l0)
 | 0=>by simp[jd]
 | k+1=>by
  have b:=Kp h fr to en l0 k
  rw[jd,b0];split
  rename_i c;rw[At rows fr to en l0 k aa];simp
  have a:=XM h k
  have d:=Ko a.2 k en (fN fr k).toNat (gQ to k (k9 rows k).length).toNat
  have e: (gQ to k (k9 rows k).length).toNat≤100:=by unfold gQ;split <;> omega
  omega
theorem XN [Inhabited et] {rows:List bQ} (h:vX rows) (fr to:bl) (s e:Nat) (b:s<e): (ig rows fr to ((s:Int),(e:Int))).length≤3601*(e - s):=by
 have a: ∀l1:Int,l1.toNat≤e→(jd rows fr to (lK rows fr to (max (s:Int) fr.row).toNat l1.toNat) (max (s:Int) fr.row).toNat l1.toNat++(if l1 - 1<to.row then [10] else [])).length≤3601*(e - s):=λl1 c=>by
  have:=Kp h fr to (lK rows fr to (max (s:Int) fr.row).toNat l1.toNat) (max (s:Int) fr.row).toNat l1.toNat
  rw[b0];have d: (if l1 - 1<to.row then ([10]:List UInt8) else []).length≤1:=by split <;> simp
  omega
 unfold ig;split
 exact a _ (by dsimp only;split <;> omega);exact bN _
theorem Kq {rows:List bQ} {n C:Nat} {f:Int × Int→List UInt8} (b: ∀s e:Nat,s<e→(f ((s:Int),(e:Int))).length≤C*(e - s)): ∀(L:List (Int × Int)) (a:Nat),sw rows n a L→(L.flatMap f).length≤C*(n - a)
 | [],_,_=>by simp
 | p::L,a,h=>by
  obtain⟨e,rfl,c,g,_,_,d⟩:=Ar h;have i:=Kq b L e d
  have j:=b a e c
  rw[n2,b0];have k:C*(n - a)=C*(e - a)+C*(n - e):=by rw[←Nat.mul_add];congr 1;omega
  omega
theorem Kr [Inhabited et] {rows:List bQ} (h:vX rows) (b:rows.length≤200) (fr to:bl): (jx rows fr to).length≤1000000:=by
 unfold jx;split
 have:=Kq (C:=3601) (λs e a=>XN h (uH fr) to s e a) _ _ (Aq rows rows.length)
 omega
 simp
def bT.fS (s:bT):List bQ:=s.ap.r.rows++bW s.ap.s.l
theorem cD.fS [Inhabited et] {s:bT} {m:Nat} {N:Int} (h:cD s m N):vX s.fS∧s.fS.length≤200∧(s.fS.length:Int)=s.rows:=by
 have ai:cZ s.ap.abs:=h.T.first.ok.bC
 have b:=h.small
 have c:=h.ring
 have d:s.ap.abs.cols=s.ap.cols:=rfl
 refine⟨λr a=>?_,?_,?_⟩;rcases cX.1 a with a | a
 have:=ai.nv r a
 exact⟨aa,this.2⟩;have:=ai.wide r a
 exact⟨aa,this.2⟩;unfold bT.fS;rw[b0,lb,cN];omega
 unfold bT.fS bT.rows;rw[b0,lb,cN];omega
def ph (b:eC) (k:Int):Option (bl × bl):=if k=0 then some (b.start,b.stop) else if k=1 then some (b.start,b.input) else if k=2 then some (b.input,b.output) else if k=3 then some (b.output,b.done) else none
def C3:Option (bl × bl)→Value
 | some (a,b)=> .tuple #[d9 a,d9 b,.bool true]
 | none=> .tuple #[d9 ⟨0,0⟩,d9 ⟨0,0⟩,.bool false]
theorem Ks (w:World) (b:eC) (k:Int):Calls prog 41 [.agg b.enc.toArray,.int .i64 k].toArray w (Pure (C3 (ph b k)) w):=by
 unfold ph;refine aW func41 ntmps41 ?_;refine ah ?_;intro c i j;refine aq ?_;intro l m n;refine aq ?_;intro o p q;refine dB ?_;refine aj (λe=>?_) (λe=>?_);refine aq ?_;refine ew [0,1,2,3] 2 [[(4,false,[]),(5,false,[6])]] (_) mixed ab (λ_ a=>a.drew) (λ_ h=>(show af _ _ [aD c b.enc 42] _ from h.aw ae)) ?_;refine aC ?_;refine bY (λ_=>True) (λ_ h=> .inr ((h.rem bv.head).rem bv.head)) (λ_ h=>aU) ?_;refine ah ?_;refine bY (λ_=>True) (λ_ h=> .inr ⟨.inr ((h.rem bv.head).rem bv.head),dj⟩) (λ_ h=>aU) ?_;refine aC ?_;refine m7 results41 (cx.eR em rfl bF rfl rfl) (cx.eR em rfl aQ rfl rfl) (cx.tmp rfl) (λd a=>?_)
 (subst_vars;exact⟨rfl,a.ext⟩)
 refine al ?_;refine aj (λaH=>?_) (λaH=>?_);refine aq ?_;refine ew [0,1,2,3] 2 [[(4,false,[]),(5,false,[6])]] (_) mixed ab (λ_ a=>a.drew) (λ_ h=>(show af _ _ [aD c b.enc 42] _ from h.aw ae)) ?_;refine aC ?_;refine bY (λ_=>True) (λ_ h=> .inr ((h.rem bv.head).rem bv.head)) (λ_ h=>aU) ?_;refine ah ?_;refine bY (λ_=>True) (λ_ h=> .inr ⟨.inr ((h.rem bv.head).rem bv.head),dj⟩) (λ_ h=>aU) ?_;refine aC ?_;refine m7 results41 (cx.eR em rfl bF rfl rfl) (cx.eR em rfl aQ rfl rfl) (cx.tmp rfl) (λd a=>?_)
 (subst_vars;exact⟨rfl,a.ext⟩)
 refine al ?_;refine aj (λf=>?_) (λf=>?_);refine aq ?_;refine ew [0,1,2,3] 2 [[(4,false,[]),(5,false,[6])]] (_) mixed ab (λ_ a=>a.drew) (λ_ h=>(show af _ _ [aD c b.enc 42] _ from h.aw ae)) ?_;refine aC ?_;refine bY (λ_=>True) (λ_ h=> .inr ((h.rem bv.head).rem bv.head)) (λ_ h=>aU) ?_;refine ah ?_;refine bY (λ_=>True) (λ_ h=> .inr ⟨.inr ((h.rem bv.head).rem bv.head),dj⟩) (λ_ h=>aU) ?_;refine aC ?_;refine m7 results41 (cx.eR em rfl bF rfl rfl) (cx.eR em rfl aQ rfl rfl) (cx.tmp rfl) (λd a=>?_)
 (subst_vars;exact⟨rfl,a.ext⟩)
 refine al ?_;refine aj (λg=>?_) (λg=>?_);refine aq ?_;refine ew [0,1,2,3] 2 [[(4,false,[]),(5,false,[6])]] (_) mixed ab (λ_ a=>a.drew) (λ_ h=>(show af _ _ [aD c b.enc 42] _ from h.aw ae)) ?_;refine aC ?_;refine bY (λ_=>True) (λ_ h=> .inr ((h.rem bv.head).rem bv.head)) (λ_ h=>aU) ?_;refine ah ?_;refine bY (λ_=>True) (λ_ h=> .inr ⟨.inr ((h.rem bv.head).rem bv.head),dj⟩) (λ_ h=>aU) ?_;refine aC ?_;refine m7 results41 (cx.eR em rfl bF rfl rfl) (cx.eR em rfl aQ rfl rfl) (cx.tmp rfl) (λd a=>?_)
 (subst_vars;exact⟨rfl,a.ext⟩)
 refine bH ?_;refine m7 results41 (cx.eR em rfl bF rfl rfl) (cx.eR em rfl aQ rfl rfl) (cx.tmp rfl) (λd a=>?_);exact⟨by rw[ag bz,ag bz,ag bz,ag bz];rfl,a.ext⟩
def vY (s:bT) (id k:Int):List UInt8 × Bool × Int:=match kb s.st.abs id ⟨s.rows,0⟩ with
 | none=>([],false,5)
 | some b=>match ph b k with
  | none=>([],false,1)
  | some (fr,to)=>(if to=⟨s.rows,0⟩ then nY (jx s.fS fr to) else jx s.fS fr to,b.cut,0)
abbrev copyV (t:List UInt8 × Bool × Int):Value:= .tuple #[.string (bs t.1),.bool t.2.1,.int .i64 t.2.2]
theorem XO {b:eC} {k:Int} {p q:bl} (h:ql b) (ai:ph b k=some (p,q)):ei p∧ei q:=by
 unfold ph at ai
 split at ai
 cases ai;exact⟨h.start,h.stop⟩
 split at ai
 cases ai;exact⟨h.start,h.input⟩
 split at ai
 cases ai;exact⟨h.input,h.output⟩
 split at ai
 cases ai;exact⟨h.output,h.done⟩
 cases ai
theorem Kt {s:eW} {id:Int} {q:bl} {b:eC} (h:kb s id q=some b):b∈ka s q:=List.mem_of_find?_eq_some h
theorem Ku [Inhabited et] (w:World) (s:bT) {m:Nat} {N:Int} (e:cD s m N) (p:bb w [ch s]) (id k:Int):Calls prog 19 [ptr s.g,.int .u64 id,.int .i64 k].toArray w (aP (λ_:Unit=>copyV (vY s id k)) [ch s] (λ_=>[ch s]) (λ_=>True) w):=by
 have Y:=e.rw
 have q:=e.fS
 unfold vY;cases t:kb s.st.abs id ⟨s.rows,0⟩ with
 | none=>
  have n:rC (kb s.st.abs id ⟨s.rows,0⟩)= .tuple #[.agg rB.enc.toArray,.bool false]:=by rw[t];rfl
  refine bI func19 ntmps19 p ?_;refine bo ?_;refine ao rfl sc rfl (λa b=>n▸tM a s e (b.has aQ) id) ?_;refine aS ?_;intro G H I;refine eX (vs:=rB.enc) gp rfl rfl (bn.whole cz a7) rfl (aI.cons rfl (aI.cons rfl (aI.cons rfl (aI.cons rfl (aI.cons rfl (aI.cons rfl (aI.cons rfl (fY rfl rfl rfl rfl rfl rfl rfl rfl rfl rfl)))))))) (by exact dT rfl) ?_;refine gN ?_;intro y d;exact aN () aU d
 | some v=>
  have n:rC (kb s.st.abs id ⟨s.rows,0⟩)= .tuple #[.agg v.enc.toArray,.bool true]:=by rw[t];rfl
  have O:ql v:=e.hq.2 v (Kt t)
  dsimp only;cases ai:ph v k with
  | none=>
   refine bI func19 ntmps19 p ?_;refine bo ?_;refine ao rfl sc rfl (λa b=>n▸tM a s e (b.has aQ) id) ?_;refine aS ?_;intro G H I;refine eX (vs:=v.enc) gp rfl rfl (bn.whole cz a7) rfl (aI.cons rfl (aI.cons rfl (aI.cons rfl (aI.cons rfl (aI.cons rfl (aI.cons rfl (aI.cons rfl (fY rfl rfl rfl rfl rfl rfl rfl rfl rfl rfl)))))))) (by exact dT rfl) ?_;refine bo ?_;have B:C3 (ph v k)= .tuple #[d9 ⟨0,0⟩,d9 ⟨0,0⟩,.bool false]:=by rw[ai];rfl
   refine aS ?_;refine cw (vs:=v.enc) gp rfl rfl rfl (λP C j u D=>C.kY (sz:=17) (o:=0) (xs:=v.enc) aQ rfl j u D) ?_;refine aq ?_;refine ao rfl D3 rfl (λa b=>B▸Ks a v k) ?_;refine ay ?_;intro J Q R;refine aq ?_;intro K S T;refine nl ?_;intro y d;exact aN () aU d
  | some U=>
   obtain⟨⟨fr,E⟩,⟨f,i⟩⟩:=U;obtain⟨V,L⟩:=XO O ai;dsimp only[copyV];refine bI func19 ntmps19 p ?_;refine bo ?_;refine ao rfl sc rfl (λa b=>n▸tM a s e (b.has aQ) id) ?_;refine aS ?_;intro G H I;refine eX (vs:=v.enc) gp rfl rfl (bn.whole cz a7) rfl (aI.cons rfl (aI.cons rfl (aI.cons rfl (aI.cons rfl (aI.cons rfl (aI.cons rfl (aI.cons rfl (fY rfl rfl rfl rfl rfl rfl rfl rfl rfl rfl)))))))) (by exact dT rfl) ?_;refine bo ?_;have B:C3 (ph v k)= .tuple #[d9 ⟨fr,E⟩,d9 ⟨f,i⟩,.bool true]:=by rw[ai];rfl
   refine aS ?_;refine cw (vs:=v.enc) gp rfl rfl rfl (λP C j u D=>C.kY (sz:=17) (o:=0) (xs:=v.enc) aQ rfl j u D) ?_;refine aq ?_;refine ao rfl D3 rfl (λa b=>B▸Ks a v k) ?_;refine ay ?_;intro J Q R;refine aq ?_;intro K S T;refine bH ?_;have Z:=Kr q.1 q.2.1 ⟨fr,E⟩ ⟨f,i⟩
   refine ah ?_;refine ew [0,2,3] 2 [[(1,false,[]),(4,false,[5])]] (_) mixed ab (λ_ d=>d.drew) (λ_ h=>(show af _ _ [aD J _ 40,aD K _ 40] _ from h.aw ae)) ?_;refine ay ?_;refine cI (λa b=>C2 a s e b) (λz M=>?_);refine bY (λ_=>True) (λ_ h=> .inr (h.aw ae)) (λ_ h=>aU) ?_;refine ar ?_;refine ao rfl D4 rfl (λa b=>Kd a _ z.A z.l.length z.c s.fS ((show bW z.l=s.fS from M)▸sC (b.has (c:=z.au) bF) (b.has (c:=z.cc) cp)) ⟨fr,E⟩ ⟨f,i⟩ (by have:=aX List.length (show bW z.l=s.fS from M);rw[cN] at this;omega) V.1 L.2.1 L.1 (λr W x X=>by have:=(q.1 r W).2 x X;omega) aa) ?_;refine bY (λ_=>True) (λ_ h=> .inr ⟨.inr (h.aw ae),dj⟩) (λ_ h=>aU) ?_;refine al ?_;refine bG [0,1] 1 [[(2,false,[3])]] ?_;refine aS ?_;refine ao rfl wz rfl (λa b=>yO a s e (b.has aQ)) ?_;refine aq ?_;refine aL rfl (λZa Zb=>(zf DL rfl rfl rfl ab (rfl) aG)) ?_;refine ah ?_;refine b2 rfl (λF=>?_) (λF=>?_);refine ar ?_;refine ao rfl Ma rfl (λa b=>Xv a _ aa) ?_;refine aS ?_;refine bG [0,1,2,3,4,5] 0 [[]] ?_;refine bo ?_;intro y d;exact aP.bP () aU (by rw[ax (aY ((Ai ⟨f,i⟩ ⟨s.rows,0⟩).symm.trans F))]) (d.aw ae);refine ah ?_;refine bG [0,1,2,3,4,5] 0 [[]] ?_;refine bo ?_;intro y d;exact aP.bP () aU (by rw[ag (a8 ((Ai ⟨f,i⟩ ⟨s.rows,0⟩).symm.trans F))]) (d.aw ae)
theorem XP [Inhabited et] (w:World) (s:bT) {m:Nat} {N:Int} (n:cD s m N) (V:bb w [ch s]) (jC:List UInt8) (W:jC.length≤1000000) (k:Int):Calls prog 25 [ptr s.g,.string (bs jC),.int .i64 k].toArray w (aP (λi:eb × Int=> .tuple #[i.1.val,.int .i64 i.2]) [ch s] (λi=>[ch s,i.1.au]) (λ_=>True) w):=by
 have Zr:=n.rw
 have C:=n.fS
 have X: ∃v:eC,∃o:Bool,rC (kb s.st.abs (IntKind.u64.wrap k) ⟨s.rows,0⟩)= .tuple #[.agg v.enc.toArray,.bool o]∧(o=true→ql v):=by
  cases Y:kb s.st.abs (IntKind.u64.wrap k) ⟨s.rows,0⟩ with
  | none=>exact⟨rB,false,rfl,λh=>by cases h⟩
  | some v=>exact⟨v,true,rfl,λ_=>n.hq.2 v (Kt Y)⟩
 obtain⟨v,o,Z,S⟩:=X;refine bI func25 ntmps25 V ?_;refine bH ?_;refine aj (λT=>?_) (λT=>?_);refine aJ ?_;intro H f;exact aP.bP (⟨none,0,[]⟩,1) aU rfl ((f.eO 40 cq).aw ae);have Za:1≤jC.length:=by
  rcases gF jC.length with I | I
  have Zb:=iR I
  subst Zb;exact absurd rfl T;exact I
 refine aC ?_;intro D Zs Zt;refine aq ?_;intro F Zu Zv;refine b5 ?_;refine ao rfl wz rfl (λd e=>yO d s n (e.has cp)) ?_;refine ay ?_;refine hC (λb:Bool=>[(0,ptr s.g),(1,.string (bs jC)),(2,.int .i64 k),(8,ptr D),(9,ptr F),(30,.bool b)]) (λ_=>af w (aB [ch s]) [aD F (bl.enc ⟨s.rows,0⟩) 40,aD D (bl.enc ⟨0,0⟩) 40,ch s]) (λ_=>True) ?_ ?_;refine aS ?_;refine aV 27 rfl (λJ=>?_) (λJ=>?_);have Zc:=aY J
 refine aS ?_;exact dr _ aU (hg rfl rfl rfl rfl rfl rfl) (λ_ h=>h.aw ae);have Zc:=a8 J
 refine al ?_;exact dr _ aU (hg rfl rfl rfl rfl rfl rfl) (λ_ h=>h.aw ae);rintro b -;refine aq ?_;refine I3 (λ_:bl × bl=>[(0,ptr s.g),(1,.string (bs jC)),(8,ptr D),(9,ptr F)]) (λi=>af w (aB [ch s]) [aD F i.2.enc 40,aD D i.1.enc 40,ch s]) (λi=>ei i.1∧ei i.2) ?_ ?_;refine b2 rfl (λaH=>?_) (λaH=>?_);refine aS ?_;refine dl rfl rfl underlying3 underlying34 rfl ?_;refine ao rfl sc rfl (λd e=>Z▸tM d s n (e.has cp) _) ?_;refine aS ?_;intro Zd Zw Zx;refine eX (vs:=v.enc) gp rfl rfl (bn.whole cz a7) rfl (aI.cons rfl (aI.cons rfl (aI.cons rfl (aI.cons rfl (aI.cons rfl (aI.cons rfl (aI.cons rfl (fY rfl rfl rfl rfl rfl rfl rfl rfl rfl rfl)))))))) (by exact dT rfl) ?_;refine aJ ?_;refine aV 40 rfl (λK=>?_) (λK=>?_);refine b5 ?_;refine Cj (wc ?_);refine aq ?_;intro H f;exact aP.bP (⟨none,0,[]⟩,5) aU rfl ((f.eO 40 cq).aw ae);refine aC ?_;refine aj (λZe=>?_) (λZe=>?_);refine aK ?_;refine Cj (wc ?_);refine aq ?_;intro H f;exact aP.bP (⟨none,0,[]⟩,5) aU rfl ((f.eO 40 cq).aw ae);refine ar ?_;refine ew [0,1,2,3] 2 [[(4,false,[]),(5,false,[])]] (_) mixed ab (λ_ f=>f.drew) (λ_ h=>(show af _ _ [aD Zd v.enc 42] _ from h.aw ae)) ?_;refine aC ?_;refine bY (λ_=>True) (λ_ h=> .inr (h.aw ae)) (λ_ h=>aU) ?_;refine ah ?_;refine bY (λ_=>True) (λ_ h=> .inr ⟨.inr (h.aw ae),dj⟩) (λ_ h=>aU) ?_;refine ar ?_;exact il (v.start,v.stop) ⟨(S (by simpa using K)).start,(S (by simpa using K)).stop⟩ bO (λ_ h=>h.aw ae);refine aq ?_;exact il (⟨0,0⟩,⟨s.rows,0⟩) ⟨by dsimp only[ei];omega,by dsimp only[ei];omega⟩ bO (λ_ h=>h.aw ae);rintro⟨⟨fr,L⟩,⟨M,O⟩⟩ ⟨U,G⟩;have Zy:=Kr C.1 C.2.1 ⟨fr,L⟩ ⟨M,O⟩
 refine aS ?_;refine cI (λd e=>C2 d s n e) (λz Zf=>?_);refine aq ?_;have P:bW z.l=s.fS:=Zf
 have Zz:z.l.length=s.fS.length:=by rw[←P,cN]
 refine aC ?_;refine aZ (l0:=[]) aA.nil rfl Mf rfl (λd e=>Xo d _ z.A z.l.length z.c s.fS (P▸sC (e.has (c:=z.au) bF) (e.has (c:=z.cc) cp)) ⟨fr,L⟩ ⟨M,O⟩ aa U.1 G.2.1 G.1 (λr Q x B=>by have:=(C.1 r Q).2 x B;omega) aa) (λy ZA=>?_);refine b5 ?_;refine ao rfl D4 rfl (λd e=>Kd d _ z.A z.l.length z.c s.fS (P▸sC (e.has (c:=z.au) cp) (e.has (c:=z.cc) hD)) ⟨fr,L⟩ ⟨M,O⟩ aa U.1 G.2.1 G.1 (λr Q x B=>by have:=(C.1 r Q).2 x B;omega) aa) ?_;refine aq ?_;refine aZ (l0:=[]) aA.nil rfl Mg rfl (λd _=>Xa d _ jC aa ⟨Za,W⟩) (λx B=>?_);refine ay ?_;refine cG (H':=af w (aB [ch s]) [eb.au ⟨none,0,[]⟩,x.au,y.au,ch s]) ?_ (Sub.refl _) (λu Zg=>(Zg.eO 40 cq).aw ae);refine b3 (ι:=Nat × eb) (λt=>[(13,y.val),(14,t.2.val),(59,x.val),(60,.int .i64 (x.l.length:Int)),(61,.int .i64 (t.1 :Int))]) (λt=>af w (aB [ch s]) [t.2.au,x.au,y.au,ch s]) (λt=>t.1≤x.l.length∧t.2.l.length≤t.1) (λt=>x.l.length - t.1) ?_ ?_;exact λw' Zh=>⟨(0,⟨none,0,[]⟩),⟨bN _,bN _⟩,(ec rfl rfl rfl rfl rfl),Zh.aw ae⟩
 rintro⟨i,q⟩ ⟨hi,Zi⟩;have ZB:=B.1
 dsimp only at hi Zi ⊢
 refine al ?_;refine aj (λZj=>?_) (λZj=>?_);obtain⟨a,Zk⟩ : ∃a,x.l[i]? = some a:=⟨_,bE aa⟩;have ZC:=B.2 a (c8 Zk)
 obtain⟨j,rfl⟩ : ∃j:Nat,a=(j:Int):=⟨a.toNat,aa⟩;obtain⟨⟨Zl,Zm⟩,ai⟩ : ∃p,y.l[j]? = some p:=⟨_,bE aa⟩;refine al ?_;refine iL (E:=bS) bF dJ rfl rfl rfl a7 aa (λZD Zn=>?_);refine ba bM rfl rfl (λZo R=>R.Ht (E:=bS) bF Zn bz _ rfl) ?_;refine aC ?_;refine iL (E:=cq) cp dQ rfl rfl rfl a7 aa (λZE Zp=>?_);refine cw em rfl rfl rfl (λZo R j u Zq=>R.gx (E:=cq) cp Zp bz j u Zq) ?_;refine dx (E:=cq) ⟨_,_⟩ dQ rfl rfl rfl rfl rfl (λZF ZG ZH=>?_);refine er (E:=cq) dQ rfl rfl rfl bi (λ_ _=>cz) b4 b4 (λZI ZJ=>?_);refine aK ?_;exact bg (i+1,⟨_,_,q.l++[⟨Zl,Zm⟩]⟩) ⟨aa,by dsimp only;rw[b0,iS];omega⟩ bm (ec rfl rfl rfl rfl rfl) (λ_ h=>h.aw ae);refine b5 ?_;intro H f;exact aN (q,0) aU f
structure C4 (rows cols lines b n:Int) (i:bT):Prop where
 ok:cD i 0 0
 T:i.T.abs=yv rows cols lines
 p:i.p=pb i.p.g n
 st:i.st.abs=⟨[],b,0,[]⟩
 es:i.es= #[]
 room:i.ap.r.room=lines
abbrev yU (g b7 ap gs a c:Nat) (n b p:Int) (T:bK):bT:=⟨g,0,true,b7,pb ap n,T,⟨gs,none,0,[],b,0,[]⟩,⟨a,⟨none,0,[]⟩,p⟩,c,#[],0⟩
theorem XQ [Inhabited et] (g b7 ap gs c d:Nat) (n b p:Int) (T:bK) {rows cols lines:Int} (f:1≤b∧b≤10000) (ai:1≤p∧p≤10000) (i:1≤n∧n≤65536) (h:cj b7 lines 0 T∧T.abs=yv rows cols lines):C4 rows cols lines b n (yU g b7 ap gs c d n b p T) where
 ok:=⟨Vy i,⟨h.1.am,h.1.bj,rfl,h.1.bL,h.1.cg,h.1.be,h.1.buf,h.1.aF,h.1.md⟩,⟨⟨f,by show ((0 :Nat):Int)≤b;omega,⟨mU 0,mU 0⟩,λe a=>(by cases a),List.Pairwise.nil,bN _⟩,λe a=>(by cases a)⟩,⟨by show ((0 :Nat):Int)≤p;omega,ai⟩,λx j=>by simp at j,⟨mU 0,(by decide: (0 :Int)≤1000000)⟩⟩
 T:=h.2
 p:=rfl
 st:=rfl
 es:=rfl
 room:=h.1.room
theorem Kv [Inhabited et] (w:World) (q:bb w [d_]) (rows cols lines b p n:Int) (r:1≤rows∧rows≤100) (s:2≤cols∧cols≤100) (t:0≤lines∧lines≤100) (k:1≤b∧b≤10000) (ai:1≤p∧p≤10000) (m:1≤n∧n≤65536):
 Calls prog 17 [.agg #[.int .i64 rows,.int .i64 cols,.int .i64 lines,.int .i64 b,.int .i64 p,.int .i64 n]].toArray w (aP (λi:bT=> .tuple #[ptr i.g,.int .i64 0]) [d_] (λi=>[ch i]) (C4 rows cols lines b n) w):=by
 refine bI func17 ntmps17 q ?_;refine ah ?_;intro x y z;refine b5 ?_;refine aZ (l0:=[]) aA.nil rfl L7 rfl (λa _=>VA a rows cols lines n r s t m) (λi hi=>?_);refine bo ?_;refine aZ (l0:=[]) aA.nil rfl L8 rfl (λa _=>V4 a b k) (λgs _=>?_);refine bo ?_;refine aZ (l0:=[]) aA.nil rfl L9 rfl (λa _=>VD a p ai) (λc _=>?_);refine bH ?_;refine aV 36 rfl (λd=>?_) (λd=>?_);have u:=aY d
 refine eG ?_;intro e f;exact absurd d a1;have u:=a8 d
 refine al ?_;refine aV 40 rfl (λaH=>?_) (λaH=>?_);have v:=aY aH
 refine cE ?_;intro e f;exact absurd aH a1;have v:=a8 aH
 refine aC ?_;refine aj (λo=>?_) (λo=>?_);refine aJ ?_;intro e f;exact absurd o a1;refine aK ?_;refine Xy rfl (λh A B=>?_);refine ar ?_;intro j C D;refine al ?_;intro e f;exact aP.bP (yU j i.1 i.2.1 gs c h n b p i.2.2) (XQ j i.1 i.2.1 gs c h n b p i.2.2 k ai m hi) rfl ((((((show af w (aB [d_]) ((yU j i.1 i.2.1 gs c h n b p i.2.2).an::_) e from f).close (l:=cT ⟨gs,none,0,[],b,0,[]⟩) ae).close (l:=fR ⟨c,⟨none,0,[]⟩,p⟩) ae).close (l:=fe (pb i.2.1 n) i.1 i.2.1 i.2.2) ae).close (l:=cQ (yU j i.1 i.2.1 gs c h n b p i.2.2)) ae).aw ae)
end Go.Proofs.YtkeokgcdnfjaaaaGreatDoor.Mq
