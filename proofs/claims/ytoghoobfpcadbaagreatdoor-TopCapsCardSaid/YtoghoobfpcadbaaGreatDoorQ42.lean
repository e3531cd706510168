/- part 42 of the proof -/
import Derived.Test.YtoghoobfpcadbaaGreatDoorQ41
namespace Go.Proofs.YtoghoobfpcadbaaGreatDoor.Mq
open Go Go.RowKit Go.Proofs Tryz
theorem KW {α:Type} {E:bx α} {b w:World} {S:List Nat} {cs cs' f l2:List Chunk} {e:TypeId} {A:Option Addr} {c:Nat} {L:List α} (h:af b S cs w) (d:bv cs (au e E A c L) cs') (g:aB cs' l2 f):Rd E w (λk=>k∉aA l2) A L.length c L:=by
 have i:=h.perm d.perm
 have ak: ∀k,k∈aA [au e E A c L]→k∉aA l2:=λk a=>h.y4 (aB.cons d aB.nil) g a
 obtain⟨dF,c9,j,l⟩:=Rd.ga (E:=E) (show w.ownsRow 0 e E.sz (.slice A L.length c) L.length (E.all L) from i.has Has.head) rfl;injection j with m _ n
 subst m n;exact l.dJ (λk a=>ak k (by rw[show aA [au e E A c L]=(au e E A c L).cm by simp[aA]];exact i_.2 a))
theorem KX [Inhabited bN] {α:Type} {E:bx α} {b w:World} {S:List Nat} {cs cs' a l2:List Chunk} {e:TypeId} {A:Option Addr} {c:Nat} {L:List α} (h:af b S cs w) (d:bv cs (au e E A c L) cs') (f:bv cs' (aU l2) a):Rd E w (λk=>k∉aA l2) A L.length c L:=
 (KW h d (aB.cons f aB.nil)).dJ (λk g=>by rwa [show aA [aU l2]=aA l2 by simp[aA,aU]] at g)
theorem KY {s:cK} {N:Int} (h:fJ s N): (vR s.abs.blocks).length≤40000:=by
 have b:=h.len
 have a:=JQ h.br s.l.length
 rw[uk] at a
 show (vR (s.l.map a_.abs)).length≤_
 rw[JP];omega
theorem YP [Inhabited bN] (w:World) (s:bU) {m:Nat} {N:Int} (k:cF s m N) (q:a8 w [b9 s]) (rows cols:Int) (r: ¬((1≤rows∧rows≤1000)∧2≤cols∧cols≤1000)):Calls prog 20 [ptr s.g,.int .i64 rows,.int .i64 cols].toArray w (aO (λ_:Unit=> .int .i64 1) [b9 s] (λ_=>[b9 s]) (λ_=>True) w):=by
 obtain⟨g,top,dn,cb,p,T,st,cx,dq,es,ck⟩:=s;have b:=k.st
 have d:=k.cx
 dsimp only at b d
 have A:=b.len
 have t:=KY b
 have B:=d.len
 have C:=d.most
 refine calls (n:=57) func20 rfl ntmps20 rfl ?_;refine cL (H':=af w (aA [b9 ⟨g,top,dn,cb,p,T,st,cx,dq,es,ck⟩]) (cS ⟨g,top,dn,cb,p,T,st,cx,dq,es,ck⟩)) ?_ (Sub.refl _) (λx f=>by have h:=(q.start x f).open (l:=cS ⟨g,top,dn,cb,p,T,st,cx,dq,es,ck⟩) bi;rwa [fR] at h);refine hs ?_;refine aY (l0:=[]) aB.nil rfl zB rfl (λa i=>CY a st ((i.has (c:=aU (cX st)) cu) _ av) ((i.has (c:=aU (cX st)) cu) _ av) ((i.has (c:=aU (cX st)) cu) _ av) b.br aa) (λz u=>?_);refine aS ?_;have D:z.l.length≤40000:=by rw[u];exact t
 refine aD ?_;refine eq [0,1,2,3,4,5,6,7,8,9,10] 3 [[(11,false,[]),(12,false,[]),(13,true,[14,15,16,17,18])]] (_) mixed ab (λ_ j=>j.drew) (λ_ h=>(show af _ _ [bU.an ⟨g,top,dn,cb,p,T,st,cx,dq,es,ck⟩] _ from h.aw ae)) ?_;refine bI ?_;refine cE (λa o=>Calls.mono (Cz a cx o.jv d) (λe w' h=>aO.star h)) (λy v=>?_);refine bV (λ_=>True) (λ_ h=> .inr (h.aw ae)) (λ_ h=>aT) ?_;refine aq ?_;have F:y.l.length≤10000:=by rw[v];omega
 refine hg (H':=af w (aA [b9 ⟨g,top,dn,cb,p,T,st,cx,dq,es,ck⟩]) (y.au::z.au::cS ⟨g,top,dn,cb,p,T,st,cx,dq,es,ck⟩)) ?_ (Sub.refl _) (λx f=>f.y5.aw ae);refine ew (E:=bW) ds rfl rfl rfl bi (λ_ _=>cA) b7 aa (λG H=>?_);refine bV (λ_=>True) (λ_ h=> .inr ⟨.inr (h.aw ae),cz⟩) (λ_ h=>aT) ?_;refine aq ?_;refine ku (lc:=fg p cb p.g T) pV<| aY (l0:=bz cb p.g eh T) ae rfl Ea rfl (λa o=>YN a cb p.g eh T (o.bo ae) rows cols r _) (λ_ _=>?_)
 refine lR ?_;intro I j;exact aO.bQ () aT rfl (((j.close (l:=fg p cb p.g T) ae).close (l:=cS ⟨g,top,dn,cb,p,T,st,cx,dq,es,ck⟩) ae).aw ae)
theorem YQ [Inhabited bN] (w:World) (s:bU) {m:Nat} {N:Int} (f:cF s m N) (K:a8 w [b9 s]) (Y:m≤800000000000) (Z:N≤800000000000000) (rows:Int) (cols:Nat) (M:1≤rows∧rows≤100) (r:2≤cols∧cols≤40):Calls prog 20 [ptr s.g,.int .i64 rows,.int .i64 (cols:Int)].toArray w (aO (λ_:bU=> .int .i64 0) [b9 s] (λi=>[b9 i]) (λi=>gK s i∧cF i (m+1) (N+(m+1 :Nat))) w):=by
 obtain⟨g,top,dn,cb,p,T,st,cx,dq,es,ck⟩:=s;have t:=f.st
 have B:=f.cx
 dsimp only at t B
 have Za:=t.len
 have O:=KY t
 have Zb:=B.len
 have Zc:=B.most
 refine calls (n:=57) func20 rfl ntmps20 rfl ?_;refine cL (H':=af w (aA [b9 ⟨g,top,dn,cb,p,T,st,cx,dq,es,ck⟩]) (cS ⟨g,top,dn,cb,p,T,st,cx,dq,es,ck⟩)) ?_ (Sub.refl _) (λx d=>by have h:=(K.start x d).open (l:=cS ⟨g,top,dn,cb,p,T,st,cx,dq,es,ck⟩) bi;rwa [fR] at h);have H:=f.De rfl
 dsimp only at H
 refine hs ?_;refine aY (l0:=[]) aB.nil rfl zB rfl (λa r=>CY a st ((r.has (c:=aU (cX st)) cu) _ av) ((r.has (c:=aU (cX st)) cu) _ av) ((r.has (c:=aU (cX st)) cu) _ av) t.br aa) (λz P=>?_);refine aS ?_;have Zd:z.l.length≤40000:=by rw[P];exact O
 refine aD ?_;refine eq [0,1,2,3,4,5,6,7,8,9,10] 3 [[(11,false,[]),(12,false,[]),(13,true,[14,15,16,17,18])]] (_) mixed ab (λ_ C=>C.drew) (λ_ h=>(show af _ _ [bU.an ⟨g,top,dn,cb,p,T,st,cx,dq,es,ck⟩] _ from h.aw ae)) ?_;refine bI ?_;refine cE (λa o=>Calls.mono (Cz a cx o.jv B) (λe w' h=>aO.star h)) (λy Q=>?_);refine bV (λ_=>True) (λ_ h=> .inr (h.aw ae)) (λ_ h=>aT) ?_;refine aq ?_;have Ze:y.l.length≤10000:=by rw[Q];omega
 refine hg (H':=af w (aA [b9 ⟨g,top,dn,cb,p,T,st,cx,dq,es,ck⟩]) (y.au::z.au::cS ⟨g,top,dn,cb,p,T,st,cx,dq,es,ck⟩)) ?_ (Sub.refl _) (λx d=>d.y5.aw ae);refine ew (E:=bW) ds rfl rfl rfl bi (λ_ _=>cA) b7 aa (λZf Zg=>?_);refine bV (λ_=>True) (λ_ h=> .inr ⟨.inr (h.aw ae),cz⟩) (λ_ h=>aT) ?_;refine aq ?_;refine ku (lc:=fg p cb p.g T) pV<| aY (l0:=bz cb p.g eh T) ae rfl Ea rfl (λa o=>YO a cb p.g eh T (o.bo ae) H rows cols M r _ _ _ _ _ (KW (E:=bW) (e:=51) (L:=z.l++y.l) (l2:=bz cb p.g eh T) o An ae) (λ_ h=>h) (by rw[b8];omega)) (λ⟨q,bu⟩ D=>?_)
 refine et ?_;obtain⟨b,I⟩:=D;dsimp only at b I
 rw[b8] at I
 refine ah ?_;refine cL (H':=af w (aA [b9 ⟨g,top,dn,cb,p,T,st,cx,dq,es,ck⟩]) (q.au::cS ⟨g,top,dn,cb,p,bu,st,cx,dq,es,ck⟩)) ?_ (Sub.refl _) (λx d=>(d.close (l:=fg p cb p.g bu) ae).aw ae);refine hE (e:=51) (sz:=2) (v:= .slice q.A q.l.length q.c) aQ (λdF c9 R Zh _ _ _=>?_);injection R with S _ U
 subst S U;refine bF [0,1,2,3,4,5,6] 1 [[(7,true,[])]] ?_;refine al ?_;refine aI rfl (λV D=>(ft 0 z.l.length ds rfl rfl (.inr ⟨rfl,rfl⟩) (.inl ⟨_,_,rfl,rfl,rfl⟩) aa bm aC)) ?_;refine aq ?_;refine aY (l0:=[aU (cX st)]) (v:=λi:Int × cK=> .int .i64 i.1) (l':=λi=>[aU (cX i.2)]) (ok:=λi=>i.2.g=st.g∧i.2.most=st.most∧fJ i.2 N∧eI i.2.abs=eI st.abs) ae rfl Mm rfl (λa o=>Calls.mono (WZ a st (o.bo ae).jv t _ _ _ _ (((KX (E:=bW) (e:=51) (A:=q.A) (c:=q.c) (L:=q.l) (l2:=cX st) o bi pV).cut (p:=1) (q:=q.l.length) aa (ch _)).cut (p:=0) (q:=z.l.length) aa aa) aa) (λe w' h=>aO.star h)) (λi hi=>?_);refine ax ?_;refine cL (H':=af w (aA [b9 ⟨g,top,dn,cb,p,T,st,cx,dq,es,ck⟩]) (q.au::cS ⟨g,top,dn,cb,p,bu,i.2,cx,dq,es,ck⟩)) ?_ (Sub.refl _) (λx d=>by have F:i.2.g=st.g:=hi.1;simp only[cS,bU.an,tU,F];exact d.aw ae);refine bF [0,1,2,3,4,5,6] 1 [[(7,true,[])]] ?_;refine al ?_;refine aI rfl (λV D=>(ft z.l.length (q.l.length - 1) ds rfl rfl (.inl ⟨_,_,rfl,rfl,rfl⟩) (.inr ⟨rfl,rfl⟩) aa bm aC)) ?_;refine aq ?_;refine aY (l0:=[aU (e8 cx)]) (v:=λi:Int × g_=> .int .i64 i.1) (l':=λi=>[aU (e8 i.2)]) (ok:=λi=>vO cx i.2) ae rfl Mn rfl (λa o=>Calls.mono (VX a cx (o.bo ae).jv B _ _ _ _ (((KX (E:=bW) (e:=51) (A:=q.A) (c:=q.c) (L:=q.l) (l2:=e8 cx) o bi nr).cut (p:=1) (q:=q.l.length) aa (ch _)).cut (p:=z.l.length) (q:=q.l.length - 1) aa aa) aa) (λe w' h=>aO.star h)) (λk G=>?_);refine ax ?_;refine cL (H':=af w (aA [b9 ⟨g,top,dn,cb,p,T,st,cx,dq,es,ck⟩]) [b9 ⟨g,top,dn,cb,p,bu,i.2,k.2,dq,es,ck⟩]) ?_ (Sub.refl _) (λx d=>by have F:k.2.g=cx.g:=G.g;have W:=d.aw (l:=cS ⟨g,top,dn,cb,p,bu,i.2,k.2,dq,es,ck⟩) (by simp only[cS,bU.an,tU,F];exact ae);exact (W.close (l:=cS ⟨g,top,dn,cb,p,bu,i.2,k.2,dq,es,ck⟩) ae).aw ae);have X:cF ⟨g,top,dn,cb,p,bu,i.2,k.2,dq,es,ck⟩ (m+1) N:=⟨f.par,⟨b.am,b.bk,rfl,b.bL,b.cl,b.be,b.buf,b.aG,b.md⟩,hi.2.2.1,G.ok,f.mp,f.top⟩
 refine aq ?_;refine aY (l0:=[b9 ⟨g,top,dn,cb,p,bu,i.2,k.2,dq,es,ck⟩]) ae rfl D8 rfl (λa o=>KE a _ X (o.bo ae) aa aa) (λu j=>?_);refine aJ ?_;intro Zi C;exact aN u ⟨⟨j.g,(aV du.most j.st).trans ((Dh _ _).trans hi.2.1),j.marks.trans G.most,j.room.trans b.room,by rw[j.st];have J:=(Dg (hZ bu.abs).aG hi.2.2.1.wf.KF).2;rw[hi.2.2.2] at J;exact J⟩,j.ok⟩ C
theorem KZ (w:World) (a b c d e:Int) (g:0≤a∧a≤255) (h:0≤b∧b≤255) (i:0≤c∧c≤255) (ak:0≤d∧d≤255) (j:0≤e∧e≤255):Calls prog 7 [.agg [.int .u8 a,.int .u8 b,.int .u8 c,.int .u8 d,.int .u8 e].toArray].toArray w
 (Pure (.agg #[.int .i64 (1+a%10),.int .i64 (2+b%20),.int .i64 (c%20),.int .i64 (1+d%9),.int .i64 (1+e%9),.int .i64 60]) w):=by
 refine aW func7 ntmps7 ?_;refine ah ?_;intro k l m;refine ar ?_;intro n o p;refine al ?_;refine nb rfl rfl rfl aa aa ?_;refine aS ?_;refine nb rfl rfl rfl aa aa ?_;refine aS ?_;refine nb rfl rfl rfl aa aa ?_;refine ah ?_;refine nb rfl rfl rfl aa aa ?_;refine aS ?_;refine nb rfl rfl rfl aa aa ?_;refine aL ?_;intro q f;exact⟨rfl,f.ext⟩
theorem cF.mono [Inhabited bN] {s:bU} {m a:Nat} {N b:Int} (h:cF s m N) (c:m≤a) (d:N≤b):cF s a b:=⟨h.par,h.T.mono c,h.st.mono d,h.cx,h.mp,h.top⟩
theorem y2.YR [Inhabited bN] {s i:bU} {m k:Nat} {N M:Int} {L:List UInt8} (h:y2 s m N L i) (b:cF s k M):gK s i:=by
 obtain⟨bu,_,a,_⟩:=h.ex;exact⟨h.g,(aV du.most a).trans (Dh _ _),h.marks,h.room,by rw[a];exact (Dg _ b.st.wf.KF).2⟩
theorem YS [Inhabited bN] (w:World) (s:bU) {m:Nat} {N:Int} (a:cF s m N) (c:a8 w [b9 s]) (d:m≤800000000000) (f:N≤800000000000000) (rows cols:Int) (k: (rows≤30∨1000<rows)∧(cols≤40∨1000<cols)):Calls prog 20 [ptr s.g,.int .i64 rows,.int .i64 cols].toArray w (aO (λi:Int × bU=> .int .i64 i.1) [b9 s] (λi=>[b9 i.2]) (λi=>gK s i.2∧cF i.2 (m+1) (N+(m+1 :Nat))) w):=by
 by_cases j: (1≤rows∧rows≤1000)∧2≤cols∧cols≤1000
 obtain⟨b,rfl⟩ : ∃b:Nat,cols=(b:Int):=⟨cols.toNat,aa⟩;exact Calls.mono (YQ w s a c d f rows b aa aa) (λe w' h=>h.mono (λi hi=>⟨(0,i),⟨hi.1,hi.2⟩,rfl,rfl⟩));exact Calls.mono (YP w s a c rows cols j) (λe w' h=>h.mono (λi _=>⟨(1,s),⟨gK.refl s,a.mono aa aa⟩,rfl,rfl⟩))
theorem YT [Inhabited bN] (w:World) (s:bU) {m:Nat} {N:Int} (f:cF s m N) (q:a8 w [b9 s]) (I:m≤90000000000) (J:N≤700000000000000) (k a b:Int) (S:List UInt8) (K:S.length≤400) (r: -9223372036854775808≤a∧a≤9223372036854775807) (t:k=1→(a≤30∨1000<a)∧(b≤40∨1000<b)):Calls prog 8 [ptr s.g,.agg [.int .i64 k,.int .i64 a,.int .i64 b,.string (bs S)].toArray].toArray w
 (aO (λ_:bU=> .tuple #[]) [b9 s] (λi=>[b9 i]) (λi=>gK s i∧cF i (m+8000000*S.length+1) (N+(m+8000000*S.length+1 :Nat))) w):=by
 refine bC func8 ntmps8 q ?_;refine ah ?_;intro L M O;refine cI ?_;refine aj (λu=>?_) (λu=>?_);refine aS ?_;refine Os.IE underlying9 underlying59 underlying5 rfl rfl aa (λce x P Q y z=>?_);refine aY (l0:=[b9 s]) ae rfl D5 rfl (λd o=>KI d s f (o.bo ae) aa aa (some ⟨ce,0,none⟩) S.length x S ((Os.Rd.ID (E:=cD) o (g:=ce) (e:=5) aQ y z).dJ (λk A=>by subst A;exact o.y4 (l:=[Os.jr k 5 (cD.all S)]) (l2:=[b9 s]) ae ae (by simp[aA,Os.jr]))) aa) (λB p=>?_);refine ah ?_;intro j c;exact aN B ⟨p.YR f,p.ok.mono aa aa⟩ c;refine al ?_;refine aj (λaK=>?_) (λaK=>?_);refine al ?_;refine aY (l0:=[b9 s]) ae rfl Md rfl (λd o=>YS d s f (o.bo ae) aa aa a b (t aa)) (λn h=>?_);refine ah ?_;intro j c;exact aN n.2 ⟨h.1,h.2.mono aa aa⟩ c;refine al ?_;refine aj (λC=>?_) (λC=>?_);refine aS ?_;refine dm rfl rfl underlying3 underlying32 rfl ?_;refine ah ?_;refine aY (l0:=[b9 s]) (v:=λi:Int × bU=> .int .i64 i.1) (l':=λi=>[b9 i.2]) (ok:=λi=>gK s i.2∧cF i.2 m N) ae rfl Me rfl (λd o=>X8 d s f (o.bo ae) _ _) (λn h=>?_);refine ah ?_;intro j c;exact aN n.2 ⟨h.1,h.2.mono aa aa⟩ c;refine al ?_;refine aj (λD=>?_) (λD=>?_);refine al ?_;refine cE (λd o=>X7 d s f o a b r) (λn h=>?_);refine ah ?_;intro j c;exact aN n.2 ⟨h.1,h.2.mono aa aa⟩ c;refine al ?_;refine aj (λF=>?_) (λF=>?_);refine aS ?_;refine cE (λd o=>X5 d s f o a) (λn h=>?_);refine ah ?_;intro j c;exact aN n.2 ⟨h.1,h.2.mono aa aa⟩ c;refine al ?_;refine aj (λG=>?_) (λG=>?_);refine al ?_;refine aY (l0:=[b9 s]) ae rfl Mf rfl (λd o=>Yc d s f (o.bo ae) S aa a) (λR _=>?_);refine ah ?_;intro j c;exact aN s ⟨gK.refl s,f.mono aa aa⟩ c;refine al ?_;refine aj (λH=>?_) (λH=>?_);refine aS ?_;refine dm rfl rfl underlying3 underlying32 rfl ?_;refine aq ?_;refine aY (l0:=[b9 s]) ae rfl D6 rfl (λd o=>KC d s f (o.bo ae) _ b) (λ_ _=>?_);refine ah ?_;intro j c;exact aN s ⟨gK.refl s,f.mono aa aa⟩ c;refine ah ?_;intro j c;exact aN s ⟨gK.refl s,f.mono aa aa⟩ c
theorem YU [Inhabited bN] (w:World) (k:a8 w [eh]) (a b c d e:Int) (l:0≤a∧a≤255) (m:0≤b∧b≤255) (n:0≤c∧c≤255) (ak:0≤d∧d≤255) (p:0≤e∧e≤255):Calls prog 6 [.agg [.int .u8 a,.int .u8 b,.int .u8 c,.int .u8 d,.int .u8 e].toArray].toArray w
 (aO (λi:bU=>ptr i.g) [eh] (λi=>[b9 i]) (λi=>cF i 0 0∧i.st.most=1+d%9∧i.cx.most=1+e%9∧i.ap.r.room=c%20) w):=by
 refine bC func6 ntmps6 k ?_;refine ah ?_;intro s t u;refine al ?_;refine ao rfl D3 rfl (λf v=>KZ f a b c d e l m n ak p) ?_;refine aY (l0:=[eh]) ae rfl D4 rfl (λf o=>KD f (o.bo ae) _ _ _ _ _ _ aa aa aa aa aa aa) (λi hi=>?_);refine b_ ?_;refine aj (λh=>?_) (λh=>?_);refine aL ?_;intro q j;exact absurd h aZ;refine aR ?_;intro q j;exact aN i ⟨hi.ok,hi.top,hi.marks,hi.room⟩ j
structure StepV where
 k:Int
 a:Int
 b:Int
 s:List UInt8
abbrev StepV.enc (x:StepV):List Value:=[.int .i64 x.k,.int .i64 x.a,.int .i64 x.b,.string (bs x.s)]
def EStep:bx StepV:=⟨StepV.enc,4,λ_=>rfl,λ_=>by repeat (first | exact aH.nil | refine aH.cons rfl ?_)⟩
def ib (l:List StepV):Nat:=(l.map (λx=>x.s.length)).sum
theorem K0 {l:List StepV} {i:Nat} {x:StepV} (h:l[i]? = some x):ib (l.take (i+1))=ib (l.take i)+x.s.length:=by
 unfold ib;rw[gk,h];simp
abbrev tY (x:StepV):Prop:=x.k=1→(x.a≤30∨1000<x.a)∧(x.b≤40∨1000<x.b)
structure Dn (l:List StepV):Prop where
 len:l.length≤40
 sum:ib l≤400
 ok: ∀x∈l,tY x
theorem YV {L:List StepV} {n i:Nat} {v:Int} (c:L.length=n) (b:v=(n:Int)+(ib (L.take i):Int)) (a: ∀x∈L.take i,tY x) (hi:i=n) (d:v≤400) (e:n≤40):Dn L:=by
 subst hi;rw[ez aa] at b a
 exact⟨aa,aa,a⟩
theorem YW [Inhabited bN] (w:World) (F:Nat→Prop) (A:Option Addr) (n c:Nat) (L:List StepV) (k:Rd EStep w F A n c L) (N: ∀x∈L,x.s.length≤4611686018427387904):Calls prog 4 [.slice A n c].toArray w (cf (λb:Bool=> .bool b) (λb=>b=false→Dn L) w):=by
 have O:=k.len
 have Ze:=k.cap
 have P:=k.max
 simp only[maxLen] at P
 refine aW func4 ntmps4 ?_;refine eM ?_;refine b1 (ι:=Nat × Int) (λt=>[(0,.slice A n c),(3,.int .i64 t.2),(4,.int .i64 (t.1 :Int))]) (λ_=>af w [] []) (λt=>t.1≤n∧t.2=(n:Int)+(ib (L.take t.1):Int)∧t.2≤9223372036854775807∧ ∀x∈L.take t.1,tY x) (λt=>n - t.1) ?_ ?_;exact λw' Q=>⟨(0,(n:Int)),⟨bP _,by simp[ib],by dsimp only;omega,λx e=>by simp at e⟩,(ef rfl rfl rfl),Q⟩
 rintro⟨i,v⟩ ⟨hi,G,R,o⟩;dsimp only at hi G R o ⊢
 refine aq ?_;refine hK (λb:Bool=>[(0,.slice A n c),(3,.int .i64 v),(4,.int .i64 (i:Int)),(15,.bool b)]) (λ_=>af w [] []) (λb=>b=true↔(i<n∧v≤400)) ?_ ?_;refine al ?_;refine aX 12 rfl (λp=>?_) (λp=>?_);have S:=a1 p
 refine al ?_;refine dw _ ?_ (cw rfl rfl rfl rfl) (λ_ h=>h)
 (simp only[e2];omega)
 have S:=bc p
 refine aS ?_;refine dw _ ?_ (cw rfl rfl rfl rfl) (λ_ h=>h);exact⟨λh=>Bool.noConfusion h,λh=>by exfalso;omega⟩;rintro b H;refine ar ?_;refine b6 rfl (λr=>?_) (λr=>?_);have T:=H.1 r
 obtain⟨⟨gX,ka,I,a⟩,e⟩ : ∃x,L[i]? = some x:=⟨_,bG aa⟩;have Zf:a.length≤4611686018427387904:=N _ (dc e)
 have f:=K0 e
 dsimp only at f
 obtain⟨b2,J,Zg,K⟩:=k.at_ e;have g:tY ⟨gX,ka,I,a⟩→ ∀x∈L.take (i+1),tY x:=λh x M=>by
  rw[gk,e] at M
  rcases db.1 M with l | l
  exact o x l;simp at l;subst l;exact h
 refine aJ ?_;refine bw (q:=i) zs rfl rfl rfl J rfl aa ?_;refine ar ?_;refine a7 (v:= .string (bs a)) k6 rfl rfl (λU y=>y.ct (K 3 _ rfl) av) ?_;refine aJ ?_;refine bw (q:=i) zs rfl rfl rfl J rfl aa ?_;refine cy (vs:=[.int .i64 gX,.int .i64 ka,.int .i64 I,.string (bs a)]) DR rfl rfl rfl (λU y j u V=>y.ct (K j u V) av) ?_;refine ar ?_;intro Zh Zi Zj;refine aJ ?_;refine aX 33 rfl (λaK=>?_) (λaK=>?_);have W:=a1 aK
 refine aL ?_;refine aX 37 rfl (λz=>?_) (λz=>?_);have X:=a1 z
 refine aR ?_;refine aX 42 rfl (λB=>?_) (λB=>?_);have Y:=a1 B
 refine lR ?_;intro m d;exact cf.of true (λh=>Bool.noConfusion h) rfl d.ext;have Y:=bc B
 refine aL ?_;refine aX 46 rfl (λC=>?_) (λC=>?_);have Z:=a1 C
 refine bI ?_;refine aj (λZa=>?_) (λZa=>?_);refine bB ?_;intro m d;exact cf.of true (λh=>Bool.noConfusion h) rfl d.ext;refine aL ?_;exact bg (i+1,v+(a.length:Int)) ⟨aa,by dsimp only;rw[f];omega,by dsimp only;omega,g (λh=>by dsimp only at *;omega)⟩ bm bR (λ_ h=>h.aw aB.nil);have Z:=bc C
 refine eM ?_;exact bg (i+1,v+(a.length:Int)) ⟨aa,by dsimp only;rw[f];omega,by dsimp only;omega,g (λh=>by dsimp only at *;omega)⟩ bm bR (λ_ h=>h.aw aB.nil);have X:=bc z
 refine cI ?_;refine aX 46 rfl (λD=>?_) (λD=>?_);have Zb:=a1 D
 refine bI ?_;refine aj (λZc=>?_) (λZc=>?_);refine bB ?_;intro m d;exact cf.of true (λh=>Bool.noConfusion h) rfl d.ext;refine aL ?_;exact bg (i+1,v+(a.length:Int)) ⟨aa,by dsimp only;rw[f];omega,by dsimp only;omega,g (λh=>by dsimp only at *;omega)⟩ bm bR (λ_ h=>h.aw aB.nil);have Zb:=bc D
 refine eM ?_;exact bg (i+1,v+(a.length:Int)) ⟨aa,by dsimp only;rw[f];omega,by dsimp only;omega,g (λh=>by dsimp only at *;omega)⟩ bm bR (λ_ h=>h.aw aB.nil);have W:=bc aK
 refine xh ?_;exact bg (i+1,v+(a.length:Int)) ⟨aa,by dsimp only;rw[f];omega,by dsimp only;omega,g (λh=>by dsimp only at *;omega)⟩ bm bR (λ_ h=>h.aw aB.nil);have T: ¬(i<n∧v≤400):=λh=>Bool.noConfusion ((H.2 h).symm.trans r)
 refine aR ?_;refine aX 55 rfl (λE=>?_) (λE=>?_);have Zd:=a1 E
 refine aJ ?_;intro m d;exact cf.of true (λh=>Bool.noConfusion h) rfl d.ext;have Zd:=bc E
 refine bB ?_;intro m d;exact cf.of _ (λh=>by (have Zk:=bc h;exact YV O G o aa aa aa)) rfl d.ext
end Go.Proofs.YtoghoobfpcadbaaGreatDoor.Mq
namespace Go.Proofs.YtoghoobfpcadbaaGreatDoor.Mq
open Go Go.RowKit Go.Proofs
def tZ:List UInt8:=[27,93,49,51,51,59,65,7,36,32,27,93,49,51,51,59,66,7,108,115,13,10,27,93,49,51,51,59,67,7,97,98,99,100,101,13,10,102,13,10,27,93,49,51,51,59,68,59,51,7]
def K1 (t:e7):bd:=if t.use=true then t.bk else t.am
def po (t:e7):List bS:=(K1 t).bE.jH++(K1 t).bE.cJ
def Do (st:du) (a:List bS) (id k:Int):List UInt8 × Bool × Int:=match kj st id ⟨(a.length:Int),0⟩ with
 | none=>([],false,5)
 | some b=>match pn b k with
  | none=>([],false,1)
  | some (fr,to)=>(if to=⟨(a.length:Int),0⟩ then n5 (jE a fr to) else jE a fr to,b.cut,0)
def K2:Option (fX × Int × e7):=tZ.foldlM (Cv 50) ((pg 0 50).h,(pg 0 50).state,yH 2 3 50)
def y6 (t:e7):du:=n7 ⟨[],9,0,[]⟩ (hZ t).aG
def Dp (t:e7):Bool:=decide (Do (y6 t) (po t) 1 3=([97,98,99,100,101,10,102,10],false,0)) && (match ki (y6 t) ⟨((po t).length:Int),0⟩ with | [_,b]=>b.has && decide (b.code=3) | _=>false)
theorem YX: (K2.map (λr=>Dp r.2.2))=some true:=by kernel_rfl
end Go.Proofs.YtoghoobfpcadbaaGreatDoor.Mq
namespace Go.Proofs.YtoghoobfpcadbaaGreatDoor.Mq
open Go Go.RowKit Go.Proofs Tryz
theorem YY {P:Program} {n:Nat} {ops:Array Oper} {Q:cq} {rest:List Oper} {l:Fr} {d:Nat} {ty:TypeId} {pos:String} {a6:Array Edge} {b:World} {S:List Nat} {cs cs':List Chunk} {x:Operand} {t e g m c:Nat} {xs:List Value} (o:P.underlying t=some (.slice e)) (p:P.underlying e=some (.int .u8)) (ak:Nat.blt d n=true)
 (q:ba l x=some (.slice (some ⟨g,0,none⟩) m c)) (i:bn cs (aE g xs e) (Os.jr g e xs) cs')
 (h:az P n ops Q rest ((d,.slice (some ⟨g,0,none⟩) m c)::l) (af b S cs')):az P n ops Q (⟨some d,.convert t t x,ty,pos,a6,none⟩::rest) l (af b S cs):=by
 refine hD ak λy w r j=>?_
 have a:w.heap[g]? = some (.cells xs.toArray e (0,0)):=j.has i.has
 have s:w.shape? g=some (e,xs.length):=BU (t:=e) a
 have z:g<w.heap.size:=(lE.1 a).1
 have A:w.heap[g]= .cells xs.toArray e (0,0):=(lE.1 a).2
 have u: (w.freeze ⟨g,xs.length,none⟩ 1).heap[g]? = some (.cells xs.toArray e (xs.length,xs.length+1)):=by
  unfold World.freeze;rw[ag aZ];dsimp only;rw[qz,ay rfl,a];rfl
 have v: ∀k,k≠g→(w.freeze ⟨g,xs.length,none⟩ 1).heap[k]? = w.heap[k]? :=λk f=>by
  simp[World.freeze,qz,Ne.symm f]
 refine⟨_,w.freeze ⟨g,xs.length,none⟩ 1,?_,h.at (j.ic i ⟨by simp[World.freeze],by simp[World.freeze],by simp[World.freeze],by simp[World.freeze],λk _ f=>v k (by simpa [aE] using f)⟩ ⟨_,_,u,ch _,by simp⟩ (by simp[aE,Os.jr]) (by simp[Os.jr]))⟩;simp[execOp,r x _ q,convert,run_underlying o,run_underlying p,markStringish,s]
theorem K3 {s:bU}:s.fY=po s.T.abs:=by
 obtain⟨g,top,dn,cb,p,⟨am,bk,use,ca,cl,bL,buf,aG⟩,st,cx,dq,es,ck⟩:=s;cases use <;> rfl
theorem YZ [Inhabited bN] {s:bU} {m:Nat} {N:Int} (h:cF s m N) (id k:Int):wj s id k=Do s.st.abs (po s.T.abs) id k:=by
 unfold wj Do;rw[←K3,h.fY.2.2];rfl
theorem Y0 (t:e7):po { hZ t with aG:=[] } = po t:=by
 obtain⟨am,bk,use,ca,cl,buf,aG⟩:=t;cases use <;> rfl
theorem Y1 [Inhabited bN] {s s2:bU} (e:Dd 2 3 50 9 50 9 s) (h:y2 s 0 0 tZ s2):wj s2 1 3=([97,98,99,100,101,10,102,10],false,0)∧ ∃f a,s2.iz=[f,a]∧a.has=true∧a.code=3:=by
 obtain⟨bu,l,i,m⟩:=h.ex;have c:=YX
 cases g:K2 with
 | none=>rw[g] at c;cases c
 | some r=>
  rw[g] at c
  have d:Dp r.2.2=true:=by injection c
  have ai:=e.p
  have n:bu=r.2.2:=by
   refine (l (by rw[ai]) (by rw[ai]) r ?_).2.2.2;rw[ai,e.T];exact g
  rw[e.st] at i
  subst n;have j:po s2.T.abs=po r.2.2:=by rw[m];exact Y0 r.2.2
  have k:s2.st.abs=y6 r.2.2:=i
  unfold Dp at d
  rw[d_] at d
  refine⟨?_,?_⟩;rw[YZ h.ok,j,k];exact a1 d.1;have b:=d.2
  have o:s2.iz=ki (y6 r.2.2) ⟨((po r.2.2).length:Int),0⟩:=by
   unfold bU.iz;rw[k,←h.ok.fY.2.2,K3,j]
  rw[o];split at b
  rename_i f a q;rw[q];rw[d_] at b
  exact⟨f,a,rfl,b.1,a1 b.2⟩;cases b
theorem K4 [Inhabited bN] (w:World) (t:a8 w [eh]):Calls prog 5 [].toArray w (aO (λ_:Unit=> .bool true) [eh] (λ_=>[eh]) (λ_=>True) w):=by
 refine bC func5 ntmps5 t ?_;refine aL ?_;refine aY (l0:=[eh]) ae rfl D4 rfl (λa o=>KD a (o.bo ae) 2 3 50 9 9 50 aZ aZ aZ aZ aZ aZ) (λs n=>?_);refine lR ?_;refine zi (out:=cD.all tZ) fk rfl rfl rfl ab (λr K M=>?_);refine YY underlying59 underlying5 rfl rfl cA ?_;refine aY (l0:=[b9 s]) ae rfl D5 rfl (λa o=>KI a s n.ok (o.bo ae) aa aa (some ⟨r,0,none⟩) 50 50 tZ ((Os.Rd.ID (E:=cD) (L:=tZ) o (g:=r) (e:=5) aQ aZ aZ).dJ (λk u=>by subst u;exact o.y4 (l:=[Os.jr k 5 (cD.all tZ)]) (l2:=[b9 s]) ae ae (by simp[aA,Os.jr]))) aZ) (λs2 d=>?_);refine ah ?_;obtain⟨x,f,b,y,N,B⟩:=Y1 n d;refine aq ?_;refine aY (l0:=[b9 s2]) (v:=λ_:Unit=> .tuple #[.string (bs [97,98,99,100,101,10,102,10]),.bool false,.int .i64 0]) (l':=λ_=>[b9 s2]) (ok:=λ_=>True) ae rfl D6 (by rw[d.g];rfl) (λa o=>Calls.mono (KC a s2 d.ok (o.bo ae) 1 3) (λe w' h=>by rw[x] at h;exact h)) (λ_ _=>?_);refine bB ?_;refine aY (l0:=[]) aB.nil rfl wI (by rw[d.g];rfl) (λa o=>yZ a s2 d.ok (o.has aQ)) (λz C=>?_);refine aS ?_;obtain⟨i,j,D⟩:=z;have F:D=[f,b]:=C.trans y
 subst F;refine uN ?_;refine jm (E:=ix) (e:=53) (L:=[f,b]) (A:=i) (c:=j) (q:=1) aQ kq rfl rfl rfl rfl (by show 1<2;decide) (λO G=>?_);refine ah ?_;refine a7 (v:= .bool b.has) pE rfl rfl (λH m=>m.fO (E:=ix) (e:=53) (L:=[f,b]) (A:=i) (c:=j) (k:=1) aQ G rfl 13 _ rfl) ?_;refine ax ?_;refine jm (E:=ix) (e:=53) (L:=[f,b]) (A:=i) (c:=j) (q:=1) aQ kq rfl rfl rfl rfl (by show 1<2;decide) (λP I=>?_);refine ah ?_;refine a7 (v:= .int .i64 b.code) bM rfl rfl (λH m=>m.fO (E:=ix) (e:=53) (L:=[f,b]) (A:=i) (c:=j) (k:=1) aQ I rfl 12 _ rfl) ?_;refine aL ?_;intro Q J;exact aO.bQ () aT (by rw[B];rfl) (((J.open (l:=cS s2) cB).open (l:=fg s2.p s2.cb s2.p.g s2.T) cB).aw ae)
section
theorem af.eh [Inhabited bN] {b w:World} {S:List Nat} {cs:List Chunk} {s:bU} (h:af b S cs w) (d:Has cs (b9 s)):af b S [eh] w:=by
 have ai: (aU (cS s)).pred w:=h.has d
 have e: (aU (fg s.p s.cb s.p.g s.T)).pred w:=yV ai
 refine⟨h.ext,by simp[aA,Mq.eh,rn,List.nodup_range'],λc a=>?_,λk f=>h.ei k ?_⟩;obtain rfl:=ey.1 a;exact e _ av;obtain⟨c,a,i⟩:=e3.1 f;obtain rfl:=ey.1 a;refine e3.2 ⟨b9 s,d.mem,?_⟩;show k∈aA (cS s)
 refine e3.2 ⟨aU (fg s.p s.cb s.p.g s.T),by simp,?_⟩;show k∈aA (fg s.p s.cb s.p.g s.T)
 exact e3.2 ⟨Mq.eh,by simp,i⟩
end
theorem K5 (L:List StepV) (i:Nat):ib (L.take i)≤ib L:=by
 have h:ib L=ib (L.take i)+ib (L.drop i):=by
  unfold ib;rw[←List.sum_append,←gf,i7]
 omega
section
structure K6 where
 i:Nat
 s:bU
 last:Int
structure Y2 (n:Nat) (L:List StepV) (c d e:Int) (t:K6):Prop where
 i:t.i≤n
 ok:cF t.s (8000000*ib (L.take t.i)+t.i) ((t.i:Int)*10000000000)
 top:t.s.st.most=1+d%9
 marks:t.s.cx.most=1+e%9
 room:t.s.ap.r.room=c%20
 last:0≤t.last∧t.last≤eI t.s.st.abs
end
theorem Y3 [Inhabited bN] {s:du} {N:Int} (h:hA s N):0≤eI s:=by
 cases a:s.blocks.getLast? with
 | none=>rw[y1 a];exact fQ _
 | some e=>rw[rN a];have:=(h.e9 e (pr a)).id;omega
section
structure Y4 (s:bU) (jQ:List eV) (d:Int):Prop where
 len: (jQ.length:Int)≤d%9+2∧1≤jQ.length
 last: ∃v,jQ[jQ.length - 1]? = some v∧v.id=eI s.st.abs
 mj: ∀v∈jQ,v.dir.length≤256∧v.line.length≤256
theorem Y5 [Inhabited bN] {s:bU} {m:Nat} {N:Int} (h:cF s m N) {jQ:List eV} (a:jQ=s.iz) {d:Int} (f:s.st.most=1+d%9):Y4 s jQ d:=by
 subst a;have g:=h.st.wf.len
 have i:s.st.abs.most=s.st.most:=rfl
 have j:s.iz.length=s.st.abs.blocks.length+1:=CK _
 refine⟨⟨aa,aa⟩,?_,λv c=>(h.iz.2 v c).mj⟩;obtain⟨b,e,hi⟩:=Yl s.st.abs ⟨s.rows,0⟩;exact⟨b,by rw[←List.getLast?_eq_getElem?];exact e,hi⟩
theorem Y6 [Inhabited bN] {s:bU} {m:Nat} {N:Int} (h:cF s m N) {c:Int} (e:s.ap.r.room=c%20) (x:dd) (b:b0 x.l=s.ap.r.rows++b0 s.ap.s.l): (x.l.length:Int)≤c%20+s.ap.s.l.length:=by
 have d:=h.fY
 have f: (b0 x.l).length=s.fY.length:=aV List.length b
 have i: (b0 x.l).length=x.l.length:=by simp[b0]
 have j:=d.2.2
 have k:s.rows=s.ap.r.n+(s.ap.s.l.length:Int):=rfl
 have a:cU s.ap.r:=h.T.first.g.r
 have o:=a.n
 have p:=a.len
 omega
set_option maxHeartbeats 2000000 in
theorem Y7 [Inhabited bN] (w:World) (Zp:a8 w [eh]) (a b c d e:Int) (Y:0≤a∧a≤255) (Z:0≤b∧b≤255) (Za:0≤c∧c≤255) (ak:0≤d∧d≤255) (Zb:0≤e∧e≤255) (F:Nat→Prop) (A:Option Addr) (n q:Nat) (L:List StepV) (O:Rd EStep w F A n q L) (Zc: ∀k,F k→k∉aA [eh]) (Zq: ∀x∈L,x.s.length≤4611686018427387904) (Zr: ∀x∈L,-9223372036854775808≤x.a∧x.a≤9223372036854775807):
 Calls prog 3 [.agg [.int .u8 a,.int .u8 b,.int .u8 c,.int .u8 d,.int .u8 e].toArray,.slice A n q].toArray w (aO (λ_:Unit=> .bool true) [eh] (λ_=>[eh]) (λ_=>True) w):=by
 have ZP:=O.len
 refine bC func3 ntmps3 Zp ?_;refine ah ?_;intro Zd ZQ ZR;refine ax ?_;refine hK (λg:Bool=>[(1,.slice A n q),(2,ptr Zd),(18,.bool g)]) (λ_=>af w (aA [eh]) [aE Zd [.int .u8 a,.int .u8 b,.int .u8 c,.int .u8 d,.int .u8 e] 23,eh]) (λg=>g=false→Dn L) ?_ ?_;refine aq ?_;refine aY (l0:=[]) aB.nil rfl L_ rfl (λf o=>YW f F A n q L (O.ext o.ext Zc) Zq) (λg P=>?_);refine ar ?_;refine aX 15 rfl (λZs=>?_) (λZs=>?_);refine aS ?_;refine dw _ ?_ (ef rfl rfl rfl) (λ_ h=>h.aw ae);exact λh=>Bool.noConfusion h
 refine ar ?_;refine cE (λf o=>K4 f o) (λ_ _=>?_);refine aS ?_;refine dw _ ?_ (ef rfl rfl rfl) (λ_ h=>h.aw ae);exact λ_=>P bA
 rintro g P;refine ar ?_;refine b6 rfl (λZe=>?_) (λZe=>?_);refine aq ?_;refine cE (λf o=>K4 f o) (λ_ _=>?_);refine al ?_;intro Zt J;exact aN () aT J;have Q:=P Ze
 refine ax ?_;refine cE (λf o=>YU f o a b c d e Y Z Za ak Zb) (λfv Zu=>?_);refine dx ?_;refine ao rfl D3 rfl (λf y=>KZ f a b c d e Y Z Za ak Zb) ?_;refine ar ?_;intro K ZS ZT;refine cI ?_;obtain⟨Zf,Zv,Zw,Zx⟩:=Zu;refine b1 (ι:=K6) (λt=>[(1,.slice A n q),(5,ptr t.s.g),(6,ptr K),(7,.int .u64 t.last),(8,.int .i64 (t.i:Int))]) (λt=>af w (aA [eh]) [aE K [.int .i64 (1+a%10),.int .i64 (2+b%20),.int .i64 (c%20),.int .i64 (1+d%9),.int .i64 (1+e%9),.int .i64 60] 30,b9 t.s]) (λt=>Y2 n L c d e t) (λt=>n - t.i) ?_ ?_;exact λw' R=>⟨⟨0,fv,0⟩,⟨bP _,by simpa [ib] using Zf,Zv,Zw,Zx,fQ _,Y3 Zf.st.wf⟩,(ea rfl rfl rfl rfl rfl),R.aw ae⟩
 rintro⟨i,s,last⟩ ⟨hi,Zg,Zh,Zi,Zj,Zy,Zk⟩;dsimp only at hi Zg Zh Zi Zj Zy Zk ⊢
 have ZU:ib (L.take i)≤ib L:=K5 L i
 have ZV:=Q.len
 have ZW:=Q.sum
 refine aJ ?_;refine aj (λZz=>?_) (λZz=>?_);obtain⟨⟨gX,ka,S,U⟩,V⟩ : ∃x,L[i]? = some x:=⟨_,bG aa⟩;have Zl:=dc V
 have ZA:=K0 V
 have ZX:ib (L.take (i+1))≤ib L:=K5 L (i+1)
 have Zm:=Zr _ Zl
 have ZB:tY ⟨gX,ka,S,U⟩:=Q.ok _ Zl
 dsimp only at ZA Zm
 obtain⟨b2,ZC,ZD,ZE⟩:=O.at_ V;refine aJ ?_;refine bw (q:=i) zs rfl rfl rfl ZC rfl aa ?_;refine cy (vs:=[.int .i64 gX,.int .i64 ka,.int .i64 S,.string (bs U)]) DR rfl rfl rfl (λI C j u ZF=>C.ct (ZE j u ZF) (by rw[block_add,block_add];exact Zc _ ZD)) ?_;refine aY (l0:=[b9 s]) ae rfl Ma rfl (λf o=>YT f s Zg (o.bo ae) aa aa gX ka S U aa Zm ZB) (λs1 ZG=>?_);refine ah ?_;obtain⟨M,z⟩:=ZG;have ZH:=M.g
 rw[←ZH];have Zn:=M.most.trans Zh
 have ZI:=M.marks.trans Zi
 have Zo:=M.room.trans Zj
 have ZY:=Int.le_trans Zk M.last
 refine aq ?_;refine ao rfl uz rfl (λf y=>wg f s1 (y.has (c:=b9 s1) aQ)) ?_;refine ao rfl oy rfl (λf y=>o8 f s1.cb s1.p.g s1.T (tV (y.has (c:=b9 s1) aQ))) ?_;refine ao rfl jV rfl (λf y=>j3 f (firstT s1.T) (we (y.has (c:=b9 s1) aQ))) ?_;refine al ?_;refine aY (l0:=[]) aB.nil rfl wI rfl (λf o=>yZ f s1 z (o.has (c:=b9 s1) aQ)) (λjQ ZJ=>?_);refine ax ?_;obtain⟨⟨ZZ,Z0⟩,⟨W,ZK,Z1⟩,ZL⟩:=Y5 z ZJ Zn;have D:=Y6 z Zo
 have Z2:=z.small
 have Z3:=z.T.cl
 have ZM:cF s1 (8000000*ib (L.take (i+1))+(i+1)) (((i+1 :Nat):Int)*10000000000):=z.mono aa aa
 refine Jr (λZ4 ZN=>x9 (ZN.has (c:=jQ.au) aQ) aa) (λB=>?_);obtain⟨gs,B⟩:=B;refine eq [0,1,2,3,4,7,8,9] 5 [[(5,false,[6]),(10,false,[11,12,13,14,15,16,17,18,19,20,21,22,23,26,27]),(24,false,[25,28,29,30,31]),(32,false,[]),(33,false,[34,35,36])]] (_) mixed ab (λ_ J=>J.drew) (λ_ h=>(show af _ _ [aE K [.int .i64 (1+a%10),.int .i64 (2+b%20),.int .i64 (c%20),.int .i64 (1+d%9),.int .i64 (1+e%9),.int .i64 60] 30] _ from h.aw ae)) ?_;refine aS ?_;refine aI rfl (λr m=>bY rfl rfl ((bO aa)) (gl rfl rfl aC)) ?_;refine aI rfl (λr m=>bY rfl rfl ((bO aa)) (k2 LL rfl rfl aC)) ?_;refine aI rfl (λr m=>bY rfl rfl ((bO aa)) (a7 bM rfl rfl (λI N=>by subst N;exact m.ep aQ rfl) aC)) ?_;refine aI rfl (λr m=>bY rfl rfl ((bO aa)) (gl rfl rfl aC)) ?_;refine aq ?_;refine bY rfl rfl ((bO aa)) ?_;refine cE (λf o=>Db f s1 z o) (λG H=>?_);refine bV (λ_=>True) (λ_ h=> .inr (h.aw ae)) (λ_ h=>aT) ?_;refine aI rfl (λr m=>bY rfl rfl ((bO aa)) (ur underlying44 rfl rfl aC)) ?_;refine aq ?_;refine bY rfl rfl ((bO aa)) ?_;refine ao rfl pH rfl (λf y=>p1 f s1.ap (yW (y.has (c:=b9 s1) aQ))) ?_;refine bV (_) (λ_ h=> .inr ⟨.inr (h.aw ae),cz⟩) (λ_ h=>h) ?_;refine aI rfl (λr m=>bY rfl rfl ((bO aa)) (gu rfl rfl rfl (wrap64 aa aa) aC)) ?_;refine aI rfl (λr m=>bY rfl rfl ((bO aa)) (sa rfl rfl rfl aC)) ?_;refine aI rfl (λr m=>(ig rfl rfl (bO aa) rfl aC)) ?_;refine ar ?_;refine aI rfl (λr m=>bY rfl rfl ((bO (by have:=D G H;omega))) (gl rfl rfl aC)) ?_;refine aI rfl (λr m=>bY rfl rfl ((bO (by have:=D G H;omega))) (ur underlying42 rfl rfl aC)) ?_;refine aI rfl (λr m=>bY rfl rfl ((bO (by have:=D G H;omega))) (k2 LM rfl rfl aC)) ?_;refine aI rfl (λr m=>bY rfl rfl ((bO (by have:=D G H;omega))) (a7 bM rfl rfl (λI N=>by subst N;exact m.ep hp rfl) aC)) ?_;refine aI rfl (λr m=>bY rfl rfl ((bO (by have:=D G H;omega))) (gu rfl rfl rfl (wrap64 aa aa) aC)) ?_;refine aI rfl (λr m=>bY rfl rfl ((bO (by have:=D G H;omega))) (sa rfl rfl rfl aC)) ?_;refine aI rfl (λr m=>(ig rfl rfl (bO (by have:=D G H;omega)) rfl aC)) ?_;refine ar ?_;refine aI rfl (λr m=>bY rfl rfl ((bO aa)) (gl rfl rfl aC)) ?_;refine aI rfl (λr m=>bY rfl rfl ((bO aa)) (k2 LN rfl rfl aC)) ?_;refine aI rfl (λr m=>bY rfl rfl ((bO aa)) (a7 bM rfl rfl (λI N=>by subst N;exact m.ep hp rfl) aC)) ?_;refine aq ?_;refine bY rfl rfl ((bO aa)) ?_;refine aY (l0:=[b9 s1]) ae rfl Mb rfl (λf o=>X3 f s1 z aa (o.bo ae)) (λZ5 Z6=>?_);refine bV (λ_=>True) (λ_ h=> .inr ⟨.inr ⟨.inr (h.aw ae),cz⟩,(h.aw ae)⟩) (λ_ h=>aT) ?_;refine aI rfl (λr m=>bY rfl rfl ((bO aa)) (ur underlying47 rfl rfl aC)) ?_;refine aI rfl (λr m=>bY rfl rfl ((bO aa)) (sa rfl rfl rfl aC)) ?_;refine aI rfl (λr m=>(ig rfl rfl (bO aa) rfl aC)) ?_;refine ar ?_;refine aI rfl (λr m=>bY rfl rfl ((bO aa)) (gl rfl rfl aC)) ?_;refine aq ?_;refine bY rfl rfl ((bO aa)) ?_;refine ao rfl uz rfl (λf y=>wg f s1 (y.has (c:=b9 s1) aQ)) ?_;refine bV (λ_=>True) (λ_ h=> .inr ⟨.inr ⟨.inr ⟨.inr (h.aw ae),cz⟩,(h.aw ae)⟩,cz⟩) (λ_ h=>aT) ?_;refine aq ?_;refine bY rfl rfl ((bO aa)) ?_;refine ao rfl Mc rfl (λf y=>X2 f s1.cb s1.p.g s1.T (tV (y.has (c:=b9 s1) aQ))) ?_;refine bV (λ_=>True) (λ_ h=> .inr ⟨.inr ⟨.inr ⟨.inr ⟨.inr (h.aw ae),cz⟩,(h.aw ae)⟩,cz⟩,cz⟩) (λ_ h=>aT) ?_;refine aI rfl (λr m=>bY rfl rfl ((bO aa)) (zl underlying9 rfl rfl aC)) ?_;refine aI rfl (λr m=>bY rfl rfl ((bO aa)) (sa rfl rfl rfl aC)) ?_;refine aI rfl (λr m=>(ig rfl rfl (bO aa) rfl aC)) ?_;refine ah ?_;refine fD rfl ((bO aa)) ?_;refine aJ ?_;refine bw (q:=jQ.l.length - 1) kq rfl rfl rfl B aa aa ?_;refine ar ?_;refine a7 (v:= .int .u64 W.id) pF rfl rfl (λI C=>C.fO (E:=ix) hp B ZK 0 _ rfl) ?_;refine aR ?_;refine fD rfl ((bO aa)) ?_;refine bp ?_;refine b1 (ι:=Nat) (λk=>[(1,.slice A n q),(5,ptr s1.g),(6,ptr K),(7,.int .u64 W.id),(8,.int .i64 (i:Int)),(10,jQ.val),(12,.int .i64 (k:Int))]) (λ_=>af w (aA [eh]) [aE K [.int .i64 (1+a%10),.int .i64 (2+b%20),.int .i64 (c%20),.int .i64 (1+d%9),.int .i64 (1+e%9),.int .i64 60] 30,jQ.au,b9 s1]) (λk=>k≤jQ.l.length) (λk=>jQ.l.length - k) ?_ ?_;exact λw' R=>⟨0,bP _,(hq rfl rfl rfl rfl rfl rfl rfl),R.aw ae⟩
 rintro k Z7;refine aJ ?_;refine aj (λZO=>?_) (λZO=>?_);obtain⟨v,X⟩ : ∃v,jQ.l[k]? = some v:=⟨_,bG aa⟩;have Z8:=ZL v (dc X)
 refine aL ?_;refine bw (q:=k) kq rfl rfl rfl B rfl aa ?_;refine ar ?_;refine a7 (v:= .string (bs v.dir)) k6 rfl rfl (λI C=>C.fO (E:=ix) bH B X 15 _ rfl) ?_;refine ah ?_;refine bY rfl rfl (bO aa) ?_;refine ar ?_;refine bY rfl rfl (bO aa) ?_;refine ar ?_;refine bY rfl rfl (bO aa) ?_;refine bw (q:=k) kq rfl rfl rfl B rfl aa ?_;refine bY rfl rfl (bO aa) ?_;refine ar ?_;refine bY rfl rfl (bO aa) ?_;refine a7 (v:= .string (bs v.line)) k6 rfl rfl (λI C=>C.fO (E:=ix) bH B X 16 _ rfl) ?_;refine bY rfl rfl (bO aa) ?_;refine ar ?_;refine bY rfl rfl (bO aa) ?_;refine ar ?_;refine ig rfl rfl (bO aa) rfl ?_;refine aq ?_;refine fD rfl ((bO aa)) ?_;refine aL ?_;exact bg (k+1) aa aa bR (λ_ h=>h.aw ae);refine bp ?_;exact bg ⟨i+1,s1,W.id⟩ ⟨by dsimp only;omega,ZM,Zn,ZI,Zo,by dsimp only;omega,by dsimp only;omega⟩ bm bR (λ_ h=>h.aw ae);refine bB ?_;intro Zt J;exact aO.bQ () aT rfl (J.eh (s:=s) bH)
end
end Go.Proofs.YtoghoobfpcadbaaGreatDoor.Mq
