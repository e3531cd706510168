/- part 41 of the proof -/
import Derived.Test.YtkeokgcdnfjaaaaGreatDoorQ40
namespace Go.Proofs.YtkeokgcdnfjaaaaGreatDoor.Mq
open Go Go.RowKit Go.Proofs Tryz
theorem KM {α:Type} {E:bA α} {b w:World} {S:List Nat} {cs cs' f l2:List Chunk} {e:TypeId} {A:Option Addr} {c:Nat} {L:List α} (h:af b S cs w) (d:bv cs (au e E A c L) cs') (g:aA cs' l2 f):Rd E w (λk=>k∉aB l2) A L.length c L:=by
 have i:=h.perm d.perm
 have ak: ∀k,k∈aB [au e E A c L]→k∉aB l2:=λk a=>h.yW (aA.cons d aA.nil) g a
 obtain⟨dE,c9,j,l⟩:=Rd.fX (E:=E) (show w.ownsRow 0 e E.sz (.slice A L.length c) L.length (E.all L) from i.has Has.head) rfl;injection j with m _ n
 subst m n;exact l.dC (λk a=>ak k (by rw[show aB [au e E A c L]=(au e E A c L).ce by simp[aB]];exact iV.2 a))
theorem KN [Inhabited et] {α:Type} {E:bA α} {b w:World} {S:List Nat} {cs cs' a l2:List Chunk} {e:TypeId} {A:Option Addr} {c:Nat} {L:List α} (h:af b S cs w) (d:bv cs (au e E A c L) cs') (f:bv cs' (aT l2) a):Rd E w (λk=>k∉aB l2) A L.length c L:=
 (KM h d (aA.cons f aA.nil)).dC (λk g=>by rwa [show aB [aT l2]=aB l2 by simp[aB,aT]] at g)
theorem KO {s:cL} {N:Int} (h:fF s N): (vF s.abs.blocks).length≤40000:=by
 have b:=h.len
 have a:=JJ h.br s.l.length
 rw[qA] at a
 show (vF (s.l.map bc.abs)).length≤_
 rw[JI];omega
theorem Yl [Inhabited et] (w:World) (s:bT) {m:Nat} {N:Int} (k:cD s m N) (q:bb w [ch s]) (rows cols:Int) (r: ¬((1≤rows∧rows≤1000)∧2≤cols∧cols≤1000)):Calls prog 21 [ptr s.g,.int .i64 rows,.int .i64 cols].toArray w (aP (λ_:Unit=> .int .i64 1) [ch s] (λ_=>[ch s]) (λ_=>True) w):=by
 obtain⟨g,top,dk,b7,p,T,st,cW,dp,es,ck⟩:=s;have b:=k.st
 have d:=k.cW
 dsimp only at b d
 have A:=b.len
 have t:=KO b
 have B:=d.len
 have C:=d.most
 refine calls (n:=57) func21 rfl ntmps21 rfl ?_;refine cG (H':=af w (aB [ch ⟨g,top,dk,b7,p,T,st,cW,dp,es,ck⟩]) (cQ ⟨g,top,dk,b7,p,T,st,cW,dp,es,ck⟩)) ?_ (Sub.refl _) (λx f=>by have h:=(q.start x f).open (l:=cQ ⟨g,top,dk,b7,p,T,st,cW,dp,es,ck⟩) bi;rwa [fJ] at h);refine gN ?_;refine aZ (l0:=[]) aA.nil rfl zu rfl (λa i=>CO a st ((i.has (c:=aT (cT st)) cp) _ av) ((i.has (c:=aT (cT st)) cp) _ av) ((i.has (c:=aT (cT st)) cp) _ av) b.br aa) (λz u=>?_);refine aS ?_;have D:z.l.length≤40000:=by rw[u];exact t
 refine aC ?_;refine ew [0,1,2,3,4,5,6,7,8,9,10] 3 [[(11,false,[]),(12,false,[]),(13,true,[14,15,16,17,18])]] (_) mixed ab (λ_ j=>j.drew) (λ_ h=>(show af _ _ [bT.an ⟨g,top,dk,b7,p,T,st,cW,dp,es,ck⟩] _ from h.aw ae)) ?_;refine bH ?_;refine cI (λa o=>Calls.mono (Jj a cW o.jq d) (λe w' h=>aP.star h)) (λy v=>?_);refine bY (λ_=>True) (λ_ h=> .inr (h.aw ae)) (λ_ h=>aU) ?_;refine ar ?_;have F:y.l.length≤10000:=by rw[v];omega
 refine ha (H':=af w (aB [ch ⟨g,top,dk,b7,p,T,st,cW,dp,es,ck⟩]) (y.au::z.au::cQ ⟨g,top,dk,b7,p,T,st,cW,dp,es,ck⟩)) ?_ (Sub.refl _) (λx f=>f.yX.aw ae);refine er (E:=cq) dQ rfl rfl rfl bi (λ_ _=>cz) b4 aa (λG H=>?_);refine bY (λ_=>True) (λ_ h=> .inr ⟨.inr (h.aw ae),dj⟩) (λ_ h=>aU) ?_;refine ar ?_;refine k5 (lc:=fe p b7 p.g T) pO<| aZ (l0:=bx b7 p.g d_ T) ae rfl D5 rfl (λa o=>Yj a b7 p.g d_ T (o.bp ae) rows cols r _) (λ_ _=>?_)
 refine lJ ?_;intro I j;exact aP.bP () aU rfl (((j.close (l:=fe p b7 p.g T) ae).close (l:=cQ ⟨g,top,dk,b7,p,T,st,cW,dp,es,ck⟩) ae).aw ae)
theorem Ym [Inhabited et] (w:World) (s:bT) {m:Nat} {N:Int} (f:cD s m N) (K:bb w [ch s]) (Y:m≤800000000000) (Z:N≤800000000000000) (rows:Int) (cols:Nat) (M:1≤rows∧rows≤100) (j:2≤cols∧cols≤40):Calls prog 21 [ptr s.g,.int .i64 rows,.int .i64 (cols:Int)].toArray w (aP (λ_:bT=> .int .i64 0) [ch s] (λi=>[ch i]) (λi=>i.g=s.g∧cD i (m+1) (N+(m+1 :Nat))∧i.ap.r.room=s.ap.r.room) w):=by
 obtain⟨g,top,dk,b7,p,T,st,cW,dp,es,ck⟩:=s;have t:=f.st
 have B:=f.cW
 dsimp only at t B
 have Za:=t.len
 have O:=KO t
 have Zb:=B.len
 have Zc:=B.most
 refine calls (n:=57) func21 rfl ntmps21 rfl ?_;refine cG (H':=af w (aB [ch ⟨g,top,dk,b7,p,T,st,cW,dp,es,ck⟩]) (cQ ⟨g,top,dk,b7,p,T,st,cW,dp,es,ck⟩)) ?_ (Sub.refl _) (λx d=>by have h:=(K.start x d).open (l:=cQ ⟨g,top,dk,b7,p,T,st,cW,dp,es,ck⟩) bi;rwa [fJ] at h);have H:=f.C5 rfl
 dsimp only at H
 refine gN ?_;refine aZ (l0:=[]) aA.nil rfl zu rfl (λa j=>CO a st ((j.has (c:=aT (cT st)) cp) _ av) ((j.has (c:=aT (cT st)) cp) _ av) ((j.has (c:=aT (cT st)) cp) _ av) t.br aa) (λz P=>?_);refine aS ?_;have Zd:z.l.length≤40000:=by rw[P];exact O
 refine aC ?_;refine ew [0,1,2,3,4,5,6,7,8,9,10] 3 [[(11,false,[]),(12,false,[]),(13,true,[14,15,16,17,18])]] (_) mixed ab (λ_ C=>C.drew) (λ_ h=>(show af _ _ [bT.an ⟨g,top,dk,b7,p,T,st,cW,dp,es,ck⟩] _ from h.aw ae)) ?_;refine bH ?_;refine cI (λa o=>Calls.mono (Jj a cW o.jq B) (λe w' h=>aP.star h)) (λy Q=>?_);refine bY (λ_=>True) (λ_ h=> .inr (h.aw ae)) (λ_ h=>aU) ?_;refine ar ?_;have Ze:y.l.length≤10000:=by rw[Q];omega
 refine ha (H':=af w (aB [ch ⟨g,top,dk,b7,p,T,st,cW,dp,es,ck⟩]) (y.au::z.au::cQ ⟨g,top,dk,b7,p,T,st,cW,dp,es,ck⟩)) ?_ (Sub.refl _) (λx d=>d.yX.aw ae);refine er (E:=cq) dQ rfl rfl rfl bi (λ_ _=>cz) b4 aa (λZf Zg=>?_);refine bY (λ_=>True) (λ_ h=> .inr ⟨.inr (h.aw ae),dj⟩) (λ_ h=>aU) ?_;refine ar ?_;refine k5 (lc:=fe p b7 p.g T) pO<| aZ (l0:=bx b7 p.g d_ T) ae rfl D5 rfl (λa o=>Yk a b7 p.g d_ T (o.bp ae) H rows cols M j _ _ _ _ _ (KM (E:=cq) (e:=40) (L:=z.l++y.l) (l2:=bx b7 p.g d_ T) o Af ae) (λ_ h=>h) (by rw[b0];omega)) (λ⟨q,bu⟩ D=>?_)
 refine ef ?_;obtain⟨b,I⟩:=D;dsimp only at b I
 rw[b0] at I
 refine ah ?_;refine cG (H':=af w (aB [ch ⟨g,top,dk,b7,p,T,st,cW,dp,es,ck⟩]) (q.au::cQ ⟨g,top,dk,b7,p,bu,st,cW,dp,es,ck⟩)) ?_ (Sub.refl _) (λx d=>(d.close (l:=fe p b7 p.g bu) ae).aw ae);refine hv (e:=40) (sz:=2) (v:= .slice q.A q.l.length q.c) aQ (λdE c9 R Zh _ _ _=>?_);injection R with S _ U
 subst S U;refine bG [0,1,2,3,4,5,6] 1 [[(7,true,[])]] ?_;refine al ?_;refine aL rfl (λV D=>(fh 0 z.l.length dQ rfl rfl (.inr ⟨rfl,rfl⟩) (.inl ⟨_,_,rfl,rfl,rfl⟩) aa bm aG)) ?_;refine ar ?_;refine aZ (l0:=[aT (cT st)]) (v:=λi:Int × cL=> .int .i64 i.1) (l':=λi=>[aT (cT i.2)]) (ok:=λi=>i.2.g=st.g∧i.2.most=st.most∧fF i.2 N) ae rfl Mb rfl (λa o=>Calls.mono (WD a st (o.bp ae).jq t _ _ _ _ (((KN (E:=cq) (e:=40) (A:=q.A) (c:=q.c) (L:=q.l) (l2:=cT st) o bi pO).cut (p:=1) (q:=q.l.length) aa (cd _)).cut (p:=0) (q:=z.l.length) aa aa) aa) (λe w' h=>aP.star h)) (λi hi=>?_);refine ay ?_;refine cG (H':=af w (aB [ch ⟨g,top,dk,b7,p,T,st,cW,dp,es,ck⟩]) (q.au::cQ ⟨g,top,dk,b7,p,bu,i.2,cW,dp,es,ck⟩)) ?_ (Sub.refl _) (λx d=>by have F:i.2.g=st.g:=hi.1;simp only[cQ,bT.an,tL,F];exact d.aw ae);refine bG [0,1,2,3,4,5,6] 1 [[(7,true,[])]] ?_;refine al ?_;refine aL rfl (λV D=>(fh z.l.length (q.l.length - 1) dQ rfl rfl (.inl ⟨_,_,rfl,rfl,rfl⟩) (.inr ⟨rfl,rfl⟩) aa bm aG)) ?_;refine ar ?_;refine aZ (l0:=[aT (fR cW)]) (v:=λi:Int × ho=> .int .i64 i.1) (l':=λi=>[aT (fR i.2)]) (ok:=λi=>vB cW i.2) ae rfl Mc rfl (λa o=>Calls.mono (VH a cW (o.bp ae).jq B _ _ _ _ (((KN (E:=cq) (e:=40) (A:=q.A) (c:=q.c) (L:=q.l) (l2:=fR cW) o bi oy).cut (p:=1) (q:=q.l.length) aa (cd _)).cut (p:=z.l.length) (q:=q.l.length - 1) aa aa) aa) (λe w' h=>aP.star h)) (λk J=>?_);refine ay ?_;refine cG (H':=af w (aB [ch ⟨g,top,dk,b7,p,T,st,cW,dp,es,ck⟩]) [ch ⟨g,top,dk,b7,p,bu,i.2,k.2,dp,es,ck⟩]) ?_ (Sub.refl _) (λx d=>by have F:k.2.g=cW.g:=J.g;have W:=d.aw (l:=cQ ⟨g,top,dk,b7,p,bu,i.2,k.2,dp,es,ck⟩) (by simp only[cQ,bT.an,tL,F];exact ae);exact (W.close (l:=cQ ⟨g,top,dk,b7,p,bu,i.2,k.2,dp,es,ck⟩) ae).aw ae);have X:cD ⟨g,top,dk,b7,p,bu,i.2,k.2,dp,es,ck⟩ (m+1) N:=⟨f.par,⟨b.am,b.bj,rfl,b.bL,b.cg,b.be,b.buf,b.aF,b.md⟩,hi.2.2,J.ok,f.mp,f.top⟩
 refine ar ?_;refine aZ (l0:=[ch ⟨g,top,dk,b7,p,bu,i.2,k.2,dp,es,ck⟩]) ae rfl D2 rfl (λa o=>Kw a _ X (o.bp ae) aa aa) (λu G=>?_);refine aJ ?_;intro Zi C;exact aN u ⟨G.g,G.ok,G.room.trans b.room⟩ C
theorem KP (w:World) (p q:bl):Calls prog 10 [d9 p,d9 q].toArray w (Pure (.bool (fH p q)) w):=by
 obtain⟨f,g⟩:=p;obtain⟨h,i⟩:=q;refine aW func10 ntmps10 ?_;refine ah ?_;intro j k l;refine aq ?_;intro m n o;refine bo ?_;refine aV 10 rfl (λb=>?_) (λb=>?_);have d:=aY b
 refine eT ?_;intro c a;exact⟨by dsimp only at *;congr 2;simp only[fH];(symm;apply b1;omega),a.ext⟩;have d:=a8 b
 refine bw ?_;refine aV 16 rfl (λaH=>?_) (λaH=>?_);have e:=aY aH
 refine eT ?_;intro c a;exact⟨by dsimp only at *;congr 2;simp only[fH];(apply gG.2;omega),a.ext⟩;have e:=a8 aH
 refine bH ?_;intro c a;exact⟨by dsimp only at *;congr 2;simp only[fH];(symm;apply cm;omega),a.ext⟩
theorem Yn (w:World) (a b c d e:Int) (g:0≤a∧a≤255) (h:0≤b∧b≤255) (i:0≤c∧c≤255) (ak:0≤d∧d≤255) (j:0≤e∧e≤255):Calls prog 20 [.agg [.int .u8 a,.int .u8 b,.int .u8 c,.int .u8 d,.int .u8 e].toArray].toArray w
 (Pure (.agg #[.int .i64 (1+a%10),.int .i64 (2+b%20),.int .i64 (c%20),.int .i64 (1+d%9),.int .i64 (1+e%9),.int .i64 60]) w):=by
 refine aW func20 ntmps20 ?_;refine ah ?_;intro k l m;refine aq ?_;intro n o p;refine al ?_;refine m6 rfl rfl rfl aa aa ?_;refine aS ?_;refine m6 rfl rfl rfl aa aa ?_;refine aS ?_;refine m6 rfl rfl rfl aa aa ?_;refine ah ?_;refine m6 rfl rfl rfl aa aa ?_;refine aS ?_;refine m6 rfl rfl rfl aa aa ?_;refine aK ?_;intro q f;exact⟨rfl,f.ext⟩
theorem cD.mono [Inhabited et] {s:bT} {m a:Nat} {N b:Int} (h:cD s m N) (c:m≤a) (d:N≤b):cD s a b:=⟨h.par,h.T.mono c,h.st.mono d,h.cW,h.mp,h.top⟩
theorem Yo [Inhabited et] (w:World) (s:bT) {m:Nat} {N:Int} (a:cD s m N) (c:bb w [ch s]) (d:m≤800000000000) (f:N≤800000000000000) (rows cols:Int) (k: (rows≤30∨1000<rows)∧(cols≤40∨1000<cols)):Calls prog 21 [ptr s.g,.int .i64 rows,.int .i64 cols].toArray w (aP (λi:Int × bT=> .int .i64 i.1) [ch s] (λi=>[ch i.2]) (λi=>i.2.g=s.g∧cD i.2 (m+1) (N+(m+1 :Nat))) w):=by
 by_cases j: (1≤rows∧rows≤1000)∧2≤cols∧cols≤1000
 obtain⟨b,rfl⟩ : ∃b:Nat,cols=(b:Int):=⟨cols.toNat,aa⟩;exact Calls.mono (Ym w s a c d f rows b aa aa) (λe w' h=>h.mono (λi hi=>⟨(0,i),⟨hi.1,hi.2.1⟩,rfl,rfl⟩));exact Calls.mono (Yl w s a c rows cols j) (λe w' h=>h.mono (λi _=>⟨(1,s),⟨rfl,a.mono aa aa⟩,rfl,rfl⟩))
theorem Yp [Inhabited et] (w:World) (s:bT) {m:Nat} {N:Int} (h:cD s m N) (q:bb w [ch s]) (I:m≤90000000000) (J:N≤700000000000000) (k a b:Int) (S:List UInt8) (K:S.length≤400) (r: -9223372036854775808≤a∧a≤9223372036854775807) (t:k=1→(a≤30∨1000<a)∧(b≤40∨1000<b)):Calls prog 7 [ptr s.g,.agg [.int .i64 k,.int .i64 a,.int .i64 b,.string (bs S)].toArray].toArray w
 (aP (λ_:bT=> .tuple #[]) [ch s] (λi=>[ch i]) (λi=>i.g=s.g∧cD i (m+8000000*S.length+1) (N+(m+8000000*S.length+1 :Nat))) w):=by
 refine bI func7 ntmps7 q ?_;refine ah ?_;intro L M O;refine cE ?_;refine aj (λu=>?_) (λu=>?_);refine aS ?_;refine Os.Ix underlying9 underlying62 underlying5 rfl rfl aa (λb_ x P Q y z=>?_);refine aZ (l0:=[ch s]) ae rfl DY rfl (λd o=>Ky d s h (o.bp ae) aa aa (some ⟨b_,0,none⟩) S.length x S ((Os.Rd.Iw (E:=cy) o (g:=b_) (e:=5) aQ y z).dC (λk A=>by subst A;exact o.yW (l:=[Os.jn k 5 (cy.all S)]) (l2:=[ch s]) ae ae (by simp[aB,Os.jn]))) aa) (λB p=>?_);refine ah ?_;intro j c;exact aN B ⟨p.g,p.ok.mono aa aa⟩ c;refine al ?_;refine aj (λaH=>?_) (λaH=>?_);refine al ?_;refine aZ (l0:=[ch s]) ae rfl L1 rfl (λd o=>Yo d s h (o.bp ae) aa aa a b (t aa)) (λn f=>?_);refine ah ?_;intro j c;exact aN n.2 ⟨f.1,f.2.mono aa aa⟩ c;refine al ?_;refine aj (λC=>?_) (λC=>?_);refine aS ?_;refine dl rfl rfl underlying3 underlying34 rfl ?_;refine ah ?_;refine aZ (l0:=[ch s]) (v:=λi:Int × bT=> .int .i64 i.1) (l':=λi=>[ch i.2]) (ok:=λi=>i.2.g=s.g∧cD i.2 m N) ae rfl L2 rfl (λd o=>XK d s h (o.bp ae) _ _) (λn f=>?_);refine ah ?_;intro j c;exact aN n.2 ⟨f.1,f.2.mono aa aa⟩ c;refine al ?_;refine aj (λD=>?_) (λD=>?_);refine al ?_;refine cI (λd o=>XJ d s h o a b r) (λn f=>?_);refine ah ?_;intro j c;exact aN n.2 ⟨f.1,f.2.mono aa aa⟩ c;refine al ?_;refine aj (λF=>?_) (λF=>?_);refine aS ?_;refine cI (λd o=>XH d s h o a) (λn f=>?_);refine ah ?_;intro j c;exact aN n.2 ⟨f.1,f.2.mono aa aa⟩ c;refine al ?_;refine aj (λG=>?_) (λG=>?_);refine al ?_;refine aZ (l0:=[ch s]) ae rfl L3 rfl (λd o=>XP d s h (o.bp ae) S aa a) (λR _=>?_);refine ah ?_;intro j c;exact aN s ⟨rfl,h.mono aa aa⟩ c;refine al ?_;refine aj (λH=>?_) (λH=>?_);refine aS ?_;refine dl rfl rfl underlying3 underlying34 rfl ?_;refine ar ?_;refine aZ (l0:=[ch s]) ae rfl DZ rfl (λd o=>Ku d s h (o.bp ae) _ b) (λ_ _=>?_);refine ah ?_;intro j c;exact aN s ⟨rfl,h.mono aa aa⟩ c;refine ah ?_;intro j c;exact aN s ⟨rfl,h.mono aa aa⟩ c
theorem Yq [Inhabited et] (w:World) (k:bb w [d_]) (a b c d e:Int) (l:0≤a∧a≤255) (m:0≤b∧b≤255) (n:0≤c∧c≤255) (ak:0≤d∧d≤255) (p:0≤e∧e≤255):Calls prog 6 [.agg [.int .u8 a,.int .u8 b,.int .u8 c,.int .u8 d,.int .u8 e].toArray].toArray w
 (aP (λi:bT=>ptr i.g) [d_] (λi=>[ch i]) (λi=>cD i 0 0) w):=by
 refine bI func6 ntmps6 k ?_;refine ah ?_;intro r s t;refine al ?_;refine ao rfl L0 rfl (λf u=>Yn f a b c d e l m n ak p) ?_;refine aZ (l0:=[d_]) ae rfl DX rfl (λf o=>Kv f (o.bp ae) _ _ _ _ _ _ aa aa aa aa aa aa) (λi hi=>?_);refine b5 ?_;refine aj (λh=>?_) (λh=>?_);refine aK ?_;intro q j;exact absurd h a1;refine aR ?_;intro q j;exact aN i hi.ok j
structure StepV where
 k:Int
 a:Int
 b:Int
 s:List UInt8
abbrev StepV.enc (x:StepV):List Value:=[.int .i64 x.k,.int .i64 x.a,.int .i64 x.b,.string (bs x.s)]
def EStep:bA StepV:=⟨StepV.enc,4,λ_=>rfl,λ_=>by repeat (first | exact aI.nil | refine aI.cons rfl ?_)⟩
def hU (l:List StepV):Nat:=(l.map (λx=>x.s.length)).sum
theorem KQ {l:List StepV} {i:Nat} {x:StepV} (h:l[i]? = some x):hU (l.take (i+1))=hU (l.take i)+x.s.length:=by
 unfold hU;rw[fU,h];simp
abbrev tO (x:StepV):Prop:=x.k=1→(x.a≤30∨1000<x.a)∧(x.b≤40∨1000<x.b)
structure Da (l:List StepV):Prop where
 len:l.length≤40
 sum:hU l≤400
 ok: ∀x∈l,tO x
theorem Yr {L:List StepV} {n i:Nat} {v:Int} (c:L.length=n) (b:v=(n:Int)+(hU (L.take i):Int)) (a: ∀x∈L.take i,tO x) (hi:i=n) (d:v≤400) (e:n≤40):Da L:=by
 subst hi;rw[eu aa] at b a
 exact⟨aa,aa,a⟩
theorem Ys [Inhabited et] (w:World) (F:Nat→Prop) (A:Option Addr) (n c:Nat) (L:List StepV) (k:Rd EStep w F A n c L) (N: ∀x∈L,x.s.length≤4611686018427387904):Calls prog 4 [.slice A n c].toArray w (ca (λb:Bool=> .bool b) (λb=>b=false→Da L) w):=by
 have O:=k.len
 have Ze:=k.cap
 have P:=k.max
 simp only[maxLen] at P
 refine aW func4 ntmps4 ?_;refine eG ?_;refine b3 (ι:=Nat × Int) (λt=>[(0,.slice A n c),(3,.int .i64 t.2),(4,.int .i64 (t.1 :Int))]) (λ_=>af w [] []) (λt=>t.1≤n∧t.2=(n:Int)+(hU (L.take t.1):Int)∧t.2≤9223372036854775807∧ ∀x∈L.take t.1,tO x) (λt=>n - t.1) ?_ ?_;exact λw' Q=>⟨(0,(n:Int)),⟨bN _,by simp[hU],by dsimp only;omega,λx e=>by simp at e⟩,(dZ rfl rfl rfl),Q⟩
 rintro⟨i,v⟩ ⟨hi,G,R,o⟩;dsimp only at hi G R o ⊢
 refine ar ?_;refine hC (λb:Bool=>[(0,.slice A n c),(3,.int .i64 v),(4,.int .i64 (i:Int)),(15,.bool b)]) (λ_=>af w [] []) (λb=>b=true↔(i<n∧v≤400)) ?_ ?_;refine al ?_;refine aV 12 rfl (λp=>?_) (λp=>?_);have S:=aY p
 refine al ?_;refine dr _ ?_ (cu rfl rfl rfl rfl) (λ_ h=>h)
 (simp only[e3];omega)
 have S:=a8 p
 refine aS ?_;refine dr _ ?_ (cu rfl rfl rfl rfl) (λ_ h=>h);exact⟨λh=>Bool.noConfusion h,λh=>by exfalso;omega⟩;rintro b H;refine aq ?_;refine b2 rfl (λr=>?_) (λr=>?_);have T:=H.1 r
 obtain⟨⟨gV,j4,I,a⟩,e⟩ : ∃x,L[i]? = some x:=⟨_,bE aa⟩;have Zf:a.length≤4611686018427387904:=N _ (c8 e)
 have f:=KQ e
 dsimp only at f
 obtain⟨bX,J,Zg,K⟩:=k.at_ e;have g:tO ⟨gV,j4,I,a⟩→ ∀x∈L.take (i+1),tO x:=λh x M=>by
  rw[fU,e] at M
  rcases cX.1 M with l | l
  exact o x l;simp at l;subst l;exact h
 refine aJ ?_;refine bD (q:=i) zj rfl rfl rfl J rfl aa ?_;refine aq ?_;refine ba (v:= .string (bs a)) m8 rfl rfl (λU y=>y.ct (K 3 _ rfl) av) ?_;refine aJ ?_;refine bD (q:=i) zj rfl rfl rfl J rfl aa ?_;refine cw (vs:=[.int .i64 gV,.int .i64 j4,.int .i64 I,.string (bs a)]) DJ rfl rfl rfl (λU y j u V=>y.ct (K j u V) av) ?_;refine aq ?_;intro Zh Zi Zj;refine aJ ?_;refine aV 33 rfl (λaH=>?_) (λaH=>?_);have W:=aY aH
 refine aK ?_;refine aV 37 rfl (λz=>?_) (λz=>?_);have X:=aY z
 refine aR ?_;refine aV 42 rfl (λB=>?_) (λB=>?_);have Y:=aY B
 refine lJ ?_;intro m d;exact ca.of true (λh=>Bool.noConfusion h) rfl d.ext;have Y:=a8 B
 refine aK ?_;refine aV 46 rfl (λC=>?_) (λC=>?_);have Z:=aY C
 refine bH ?_;refine aj (λZa=>?_) (λZa=>?_);refine bw ?_;intro m d;exact ca.of true (λh=>Bool.noConfusion h) rfl d.ext;refine aK ?_;exact bg (i+1,v+(a.length:Int)) ⟨aa,by dsimp only;rw[f];omega,by dsimp only;omega,g (λh=>by dsimp only at *;omega)⟩ bm bO (λ_ h=>h.aw aA.nil);have Z:=a8 C
 refine eG ?_;exact bg (i+1,v+(a.length:Int)) ⟨aa,by dsimp only;rw[f];omega,by dsimp only;omega,g (λh=>by dsimp only at *;omega)⟩ bm bO (λ_ h=>h.aw aA.nil);have X:=a8 z
 refine cE ?_;refine aV 46 rfl (λD=>?_) (λD=>?_);have Zb:=aY D
 refine bH ?_;refine aj (λZc=>?_) (λZc=>?_);refine bw ?_;intro m d;exact ca.of true (λh=>Bool.noConfusion h) rfl d.ext;refine aK ?_;exact bg (i+1,v+(a.length:Int)) ⟨aa,by dsimp only;rw[f];omega,by dsimp only;omega,g (λh=>by dsimp only at *;omega)⟩ bm bO (λ_ h=>h.aw aA.nil);have Zb:=a8 D
 refine eG ?_;exact bg (i+1,v+(a.length:Int)) ⟨aa,by dsimp only;rw[f];omega,by dsimp only;omega,g (λh=>by dsimp only at *;omega)⟩ bm bO (λ_ h=>h.aw aA.nil);have W:=a8 aH
 refine w8 ?_;exact bg (i+1,v+(a.length:Int)) ⟨aa,by dsimp only;rw[f];omega,by dsimp only;omega,g (λh=>by dsimp only at *;omega)⟩ bm bO (λ_ h=>h.aw aA.nil);have T: ¬(i<n∧v≤400):=λh=>Bool.noConfusion ((H.2 h).symm.trans r)
 refine aR ?_;refine aV 55 rfl (λE=>?_) (λE=>?_);have Zd:=aY E
 refine aJ ?_;intro m d;exact ca.of true (λh=>Bool.noConfusion h) rfl d.ext;have Zd:=a8 E
 refine bw ?_;intro m d;exact ca.of _ (λh=>by (have Zk:=a8 h;exact Yr O G o aa aa aa)) rfl d.ext
end Go.Proofs.YtkeokgcdnfjaaaaGreatDoor.Mq
namespace Go.Proofs.YtkeokgcdnfjaaaaGreatDoor.Mq
open Go Go.RowKit Go.Proofs
def tP:List UInt8:=[27,93,49,51,51,59,65,7,36,32,27,93,49,51,51,59,66,7,108,115,13,10,27,93,49,51,51,59,67,7,97,98,99,100,101,13,10,102,13,10,27,93,49,51,51,59,68,59,51,7]
def KR (t:e7):bd:=if t.use=true then t.bj else t.am
def pi (t:e7):List bQ:=(KR t).bC.jA++(KR t).bC.cF
def Db (st:eW) (a:List bQ) (id k:Int):List UInt8 × Bool × Int:=match kb st id ⟨(a.length:Int),0⟩ with
 | none=>([],false,5)
 | some b=>match ph b k with
  | none=>([],false,1)
  | some (fr,to)=>(if to=⟨(a.length:Int),0⟩ then nY (jx a fr to) else jx a fr to,b.cut,0)
def KS:Option (fQ × Int × e7):=tP.foldlM (Co 50) ((pb 0 50).h,(pb 0 50).state,yv 2 3 50)
def yY (t:e7):eW:=rG ⟨[],9,0,[]⟩ (im t).aF
def Dc (t:e7):Bool:=decide (Db (yY t) (pi t) 1 3=([97,98,99,100,101,10,102,10],false,0)) && (match ka (yY t) ⟨((pi t).length:Int),0⟩ with | [_,b]=>b.has && decide (b.code=3) | _=>false)
theorem Yt: (KS.map (λr=>Dc r.2.2))=some true:=by kernel_rfl
end Go.Proofs.YtkeokgcdnfjaaaaGreatDoor.Mq
namespace Go.Proofs.YtkeokgcdnfjaaaaGreatDoor.Mq
open Go Go.RowKit Go.Proofs Tryz
theorem Yu {P:Program} {n:Nat} {ops:Array Oper} {Q:cl} {rest:List Oper} {l:Fr} {d:Nat} {ty:TypeId} {pos:String} {a6:Array Edge} {b:World} {S:List Nat} {cs cs':List Chunk} {x:Operand} {t e g m c:Nat} {xs:List Value} (o:P.underlying t=some (.slice e)) (p:P.underlying e=some (.int .u8)) (ak:Nat.blt d n=true)
 (q:a_ l x=some (.slice (some ⟨g,0,none⟩) m c)) (i:bn cs (aD g xs e) (Os.jn g e xs) cs')
 (h:az P n ops Q rest ((d,.slice (some ⟨g,0,none⟩) m c)::l) (af b S cs')):az P n ops Q (⟨some d,.convert t t x,ty,pos,a6,none⟩::rest) l (af b S cs):=by
 refine ht ak λy w r j=>?_
 have a:w.heap[g]? = some (.cells xs.toArray e (0,0)):=j.has i.has
 have s:w.shape? g=some (e,xs.length):=BN (t:=e) a
 have z:g<w.heap.size:=(lz.1 a).1
 have A:w.heap[g]= .cells xs.toArray e (0,0):=(lz.1 a).2
 have u: (w.freeze ⟨g,xs.length,none⟩ 1).heap[g]? = some (.cells xs.toArray e (xs.length,xs.length+1)):=by
  unfold World.freeze;rw[ag a1];dsimp only;rw[qs,ax rfl,a];rfl
 have v: ∀k,k≠g→(w.freeze ⟨g,xs.length,none⟩ 1).heap[k]? = w.heap[k]? :=λk f=>by
  simp[World.freeze,qs,Ne.symm f]
 refine⟨_,w.freeze ⟨g,xs.length,none⟩ 1,?_,h.at (j.hV i ⟨by simp[World.freeze],by simp[World.freeze],by simp[World.freeze],by simp[World.freeze],λk _ f=>v k (by simpa [aD] using f)⟩ ⟨_,_,u,cd _,by simp⟩ (by simp[aD,Os.jn]) (by simp[Os.jn]))⟩;simp[execOp,r x _ q,convert,run_underlying o,run_underlying p,markStringish,s]
theorem KT {s:bT}:s.fS=pi s.T.abs:=by
 obtain⟨g,top,dk,b7,p,⟨am,bj,use,b6,cg,bL,buf,aF⟩,st,cW,dp,es,ck⟩:=s;cases use <;> rfl
theorem Yv [Inhabited et] {s:bT} {m:Nat} {N:Int} (h:cD s m N) (id k:Int):vY s id k=Db s.st.abs (pi s.T.abs) id k:=by
 unfold vY Db;rw[←KT,h.fS.2.2];rfl
theorem Yw (t:e7):pi { im t with aF:=[] } = pi t:=by
 obtain⟨am,bj,use,b6,cg,buf,aF⟩:=t;cases use <;> rfl
theorem Yx [Inhabited et] {s s2:bT} (e:C4 2 3 50 9 50 s) (h:Kx s 0 0 tP s2):vY s2 1 3=([97,98,99,100,101,10,102,10],false,0)∧ ∃f a,s2.hq=[f,a]∧a.has=true∧a.code=3:=by
 obtain⟨bu,l,i,m⟩:=h.ex;have c:=Yt
 cases g:KS with
 | none=>rw[g] at c;cases c
 | some r=>
  rw[g] at c
  have d:Dc r.2.2=true:=by injection c
  have ai:=e.p
  have n:bu=r.2.2:=by
   refine (l (by rw[ai]) (by rw[ai]) r ?_).2.2.2;rw[ai,e.T];exact g
  rw[e.st] at i
  subst n;have j:pi s2.T.abs=pi r.2.2:=by rw[m];exact Yw r.2.2
  have k:s2.st.abs=yY r.2.2:=i
  unfold Dc at d
  rw[dY] at d
  refine⟨?_,?_⟩;rw[Yv h.ok,j,k];exact aY d.1;have b:=d.2
  have o:s2.hq=ka (yY r.2.2) ⟨((pi r.2.2).length:Int),0⟩:=by
   unfold bT.hq;rw[k,←h.ok.fS.2.2,KT,j]
  rw[o];split at b
  rename_i f a q;rw[q];rw[dY] at b
  exact⟨f,a,rfl,b.1,aY b.2⟩;cases b
theorem KU [Inhabited et] (w:World) (t:bb w [d_]):Calls prog 5 [].toArray w (aP (λ_:Unit=> .bool true) [d_] (λ_=>[d_]) (λ_=>True) w):=by
 refine bI func5 ntmps5 t ?_;refine aK ?_;refine aZ (l0:=[d_]) ae rfl DX rfl (λa o=>Kv a (o.bp ae) 2 3 50 9 9 50 a1 a1 a1 a1 a1 a1) (λs n=>?_);refine lJ ?_;refine za (out:=cy.all tP) fi rfl rfl rfl ab (λr K M=>?_);refine Yu underlying62 underlying5 rfl rfl cz ?_;refine aZ (l0:=[ch s]) ae rfl DY rfl (λa o=>Ky a s n.ok (o.bp ae) aa aa (some ⟨r,0,none⟩) 50 50 tP ((Os.Rd.Iw (E:=cy) (L:=tP) o (g:=r) (e:=5) aQ a1 a1).dC (λk u=>by subst u;exact o.yW (l:=[Os.jn k 5 (cy.all tP)]) (l2:=[ch s]) ae ae (by simp[aB,Os.jn]))) a1) (λs2 d=>?_);refine ah ?_;obtain⟨x,f,b,y,N,B⟩:=Yx n d;refine ar ?_;refine aZ (l0:=[ch s2]) (v:=λ_:Unit=> .tuple #[.string (bs [97,98,99,100,101,10,102,10]),.bool false,.int .i64 0]) (l':=λ_=>[ch s2]) (ok:=λ_=>True) ae rfl DZ (by rw[d.g];rfl) (λa o=>Calls.mono (Ku a s2 d.ok (o.bp ae) 1 3) (λe w' h=>by rw[x] at h;exact h)) (λ_ _=>?_);refine bw ?_;refine aZ (l0:=[]) aA.nil rfl wx (by rw[d.g];rfl) (λa o=>yQ a s2 d.ok (o.has aQ)) (λz C=>?_);refine aS ?_;obtain⟨i,j,D⟩:=z;have F:D=[f,b]:=C.trans y
 subst F;refine qX ?_;refine iL (E:=hp) (e:=42) (L:=[f,b]) (A:=i) (c:=j) (q:=1) aQ kl rfl rfl rfl rfl (by show 1<2;decide) (λO G=>?_);refine ah ?_;refine ba (v:= .bool b.has) px rfl rfl (λH m=>m.gx (E:=hp) (e:=42) (L:=[f,b]) (A:=i) (c:=j) (k:=1) aQ G rfl 13 _ rfl) ?_;refine ay ?_;refine iL (E:=hp) (e:=42) (L:=[f,b]) (A:=i) (c:=j) (q:=1) aQ kl rfl rfl rfl rfl (by show 1<2;decide) (λP I=>?_);refine ah ?_;refine ba (v:= .int .i64 b.code) bM rfl rfl (λH m=>m.gx (E:=hp) (e:=42) (L:=[f,b]) (A:=i) (c:=j) (k:=1) aQ I rfl 12 _ rfl) ?_;refine aK ?_;intro Q J;exact aP.bP () aU (by rw[B];rfl) (((J.open (l:=cQ s2) cv).open (l:=fe s2.p s2.b7 s2.p.g s2.T) cv).aw ae)
end Go.Proofs.YtkeokgcdnfjaaaaGreatDoor.Mq
namespace Go.Proofs.YtkeokgcdnfjaaaaGreatDoor.Mq
open Go Go.RowKit Go.Proofs
theorem Yy {s:bT} {m:Nat} {N:Int} (h:cD s m N):s.hq.Pairwise (λa b=>a.id<b.id):=VX h.st.wf _
theorem KV: ∀(l:List gD) (a b:Int),ip a l b→ ∀x∈l,(x.id=0↔x.hid=0)
 | [],_,_,_,x,c=>by cases c
 | y::l,a,b,h,x,c=>by
  obtain⟨_,d,_,e⟩:=h;rcases eD.1 c with rfl | c
  exact d;exact KV l _ b e x c
theorem Yz [Inhabited et] {s:bT} {m:Nat} {N:Int} (h:cD s m N) {x:gD} (c:x∈s.ly) (hid:x.id≠0) {b:eC} (i:b∈s.hq) (k:b.id=x.id):fH ⟨x.row,0⟩ b.output=false∧fH b.done ⟨x.row+max 1 x.hid,0⟩=false:=by
 have l:=h.hq.2 b i
 rcases JR _ _ _ x c with n | ⟨f,o,z,p,A⟩
 exact absurd n hid;obtain⟨g,q,r,j,t⟩:=yF _ _ _ f o;obtain⟨u,v,a⟩:=List.mem_filterMap.1 q;unfold qo at a
 split at a
 cases a
 injection a with a
 subst a;have w:b=u:=VY (Yy h) i v (by rw[k,p,r])
 subst w;dsimp only at j t
 have B:=(yR _ _ _ h.ip).2 x c
 have C:=h.Kl x c
 have ak:=l.done
 have y: (x.id=0↔x.hid=0):=KV _ _ _ h.ip x c
 have D:1≤x.hid:=by
  have:x.hid≠0:=λe=>hid (y.2 e)
  omega
 refine⟨cm (λd=>?_),cm (λd=>?_)⟩;dsimp only at d
 split at j <;> omega
 dsimp only at d
 omega
end Go.Proofs.YtkeokgcdnfjaaaaGreatDoor.Mq
namespace Go.Proofs.YtkeokgcdnfjaaaaGreatDoor.Mq
open Go Go.RowKit Go.Proofs Tryz
theorem af.d_ [Inhabited et] {b w:World} {S:List Nat} {cs:List Chunk} {s:bT} (h:af b S cs w) (d:Has cs (ch s)):af b S [d_] w:=by
 have ai: (aT (cQ s)).pred w:=h.has d
 have e: (aT (fe s.p s.b7 s.p.g s.T)).pred w:=yL ai
 refine⟨h.ext,by simp[aB,Mq.d_,rg,List.nodup_range'],λc a=>?_,λk f=>h.ee k ?_⟩;obtain rfl:=eL.1 a;exact e _ av;obtain⟨c,a,i⟩:=e4.1 f;obtain rfl:=eL.1 a;refine e4.2 ⟨ch s,d.mem,?_⟩;show k∈aB (cQ s)
 refine e4.2 ⟨aT (fe s.p s.b7 s.p.g s.T),by simp,?_⟩;show k∈aB (fe s.p s.b7 s.p.g s.T)
 exact e4.2 ⟨Mq.d_,by simp,i⟩
theorem KW {w:World} {a:Addr} {i j:Nat} {u:Value} (h:w.cell? (a.add (i+j))=some u):w.cell? ((a.add i).add j)=some u:=by
 rw[add_add];exact h
theorem YA {v:eC} {y:Nat} {u:Value} (h:v.output.enc[y]? = some u): (hp.enc v)[6+y]? = some u:=match y,h with
 | 0,h=>h
 | 1,h=>h
 | n+2,h=>by simp at h
theorem YB {v:eC} {y:Nat} {u:Value} (h:v.done.enc[y]? = some u): (hp.enc v)[8+y]? = some u:=match y,h with
 | 0,h=>h
 | 1,h=>h
 | n+2,h=>by simp at h
structure YC where
 j:Nat
 r:Int
theorem YD {P:Program} {n:Nat} {c:Code} {Q:cl} {l:Fr} {H:World→Prop} {p:Prop} (ai: ∀w,H w→p) (h:p→dc P n c Q l H):dc P n c Q l H:=λw a=>h (ai w a) w a
theorem KX (L:List StepV) (i:Nat):hU (L.take i)≤hU L:=by
 have h:hU L=hU (L.take i)+hU (L.drop i):=by
  unfold hU;rw[←List.sum_append,←gb,iT]
 omega
set_option maxHeartbeats 2000000 in
theorem YE [Inhabited et] (w:World) (ZD:bb w [d_]) (a b c d e:Int) (ZE:0≤a∧a≤255) (ZF:0≤b∧b≤255) (ZG:0≤c∧c≤255) (ak:0≤d∧d≤255) (ZH:0≤e∧e≤255) (F:Nat→Prop) (A:Option Addr) (n q:Nat) (L:List StepV) (Zc:Rd EStep w F A n q L) (Zr: ∀k,F k→k∉aB [d_]) (ZI: ∀x∈L,x.s.length≤4611686018427387904) (ZJ: ∀x∈L,-9223372036854775808≤x.a∧x.a≤9223372036854775807):
 Calls prog 3 [.agg [.int .u8 a,.int .u8 b,.int .u8 c,.int .u8 d,.int .u8 e].toArray,.slice A n q].toArray w (aP (λ_:Unit=> .bool true) [d_] (λ_=>[d_]) (λ_=>True) w):=by
 have Zaa:=Zc.len
 refine bI func3 ntmps3 ZD ?_;refine ah ?_;intro Zs Zab Zac;refine ay ?_;refine hC (λg:Bool=>[(1,.slice A n q),(2,ptr Zs),(20,.bool g)]) (λ_=>af w (aB [d_]) [aD Zs [.int .u8 a,.int .u8 b,.int .u8 c,.int .u8 d,.int .u8 e] 23,d_]) (λg=>g=false→Da L) ?_ ?_;refine ar ?_;refine aZ (l0:=[]) aA.nil rfl LX rfl (λf o=>Ys f F A n q L (Zc.ext o.ext Zr) ZI) (λg Zd=>?_);refine aq ?_;refine aV 17 rfl (λZK=>?_) (λZK=>?_);refine aS ?_;refine dr _ ?_ (dZ rfl rfl rfl) (λ_ h=>h.aw ae);exact λh=>Bool.noConfusion h
 refine aq ?_;refine cI (λf o=>KU f o) (λ_ _=>?_);refine aS ?_;refine dr _ ?_ (dZ rfl rfl rfl) (λ_ h=>h.aw ae);exact λ_=>Zd bz
 rintro g Zd;refine aq ?_;refine b2 rfl (λZt=>?_) (λZt=>?_);refine ar ?_;refine cI (λf o=>KU f o) (λ_ _=>?_);refine al ?_;intro K B;exact aN () aU B;have Ze:=Zd Zt
 refine ay ?_;refine cI (λf o=>Yq f o a b c d e ZE ZF ZG ak ZH) (λfs ZL=>?_);refine hh ?_;refine b3 (ι:=Nat × bT) (λt=>[(1,.slice A n q),(5,ptr t.2.g),(6,.int .i64 (t.1 :Int))]) (λt=>af w (aB [d_]) [ch t.2]) (λt=>t.1≤n∧cD t.2 (8000000*hU (L.take t.1)+t.1) ((t.1 :Int)*10000000000)) (λt=>n - t.1) ?_ ?_;exact λw' O=>⟨(0,fs),⟨bN _,by simpa [hU] using ZL⟩,(dZ rfl rfl rfl),O.aw ae⟩
 rintro⟨i,s⟩ ⟨hi,Zu⟩;dsimp only at hi Zu ⊢
 have Zad:hU (L.take i)≤hU L:=KX L i
 have Zae:=Ze.len
 have Zaf:=Ze.sum
 refine aJ ?_;refine aj (λZM=>?_) (λZM=>?_);obtain⟨⟨gV,j4,Zf,Zg⟩,Zh⟩ : ∃x,L[i]? = some x:=⟨_,bE aa⟩;have Zv:=c8 Zh
 have ZN:=KQ Zh
 have Zag:hU (L.take (i+1))≤hU L:=KX L (i+1)
 have Zw:=ZJ _ Zv
 have ZO:tO ⟨gV,j4,Zf,Zg⟩:=Ze.ok _ Zv
 dsimp only at ZN Zw
 obtain⟨bX,ZP,ZQ,ZR⟩:=Zc.at_ Zh;refine aJ ?_;refine bD (q:=i) zj rfl rfl rfl ZP rfl aa ?_;refine cw (vs:=[.int .i64 gV,.int .i64 j4,.int .i64 Zf,.string (bs Zg)]) DJ rfl rfl rfl (λZi X j u P=>X.ct (ZR j u P) (by rw[block_add,block_add];exact Zr _ ZQ)) ?_;refine aZ (l0:=[ch s]) ae rfl LY rfl (λf o=>Yp f s Zu (o.bp ae) aa aa gV j4 Zf Zg aa Zw ZO) (λs1 ZS=>?_);refine ah ?_;obtain⟨ZT,m⟩:=ZS;rw[←ZT];have Zah:=m.rw
 have Zai:=m.yS
 refine ar ?_;refine aZ (l0:=[]) aA.nil rfl wv rfl (λf o=>yT f s1 m (o.has aQ)) (λz Zj=>?_);refine cE ?_;have Zaj:z.l.length=s1.ly.length:=aX List.length Zj
 refine b3 (ι:=YC) (λt=>[(1,.slice A n q),(5,ptr s1.g),(6,.int .i64 (i:Int)),(7,z.val),(8,.int .i64 t.r),(9,.int .i64 (t.j:Int))]) (λt=>af w (aB [d_]) [z.au,ch s1]) (λt=>t.j≤z.l.length∧ip t.r (z.l.drop t.j) s1.rows∧0≤t.r) (λt=>z.l.length - t.j) ?_ ?_;exact λw' O=>⟨⟨0,0⟩,⟨bN _,by rw[n1,Zj];exact m.ip,mU _⟩,(hg rfl rfl rfl rfl rfl rfl),O.aw ae⟩
 rintro⟨j,r⟩ ⟨P,Q,ZU⟩;dsimp only at P Q ZU ⊢
 refine aJ ?_;refine aj (λZV=>?_) (λZV=>?_);obtain⟨⟨C,R,D⟩,Zx⟩ : ∃x,z.l[j]? = some x:=⟨_,bE aa⟩;have ZW:z.l.drop j=⟨C,R,D⟩::z.l.drop (j+1):=by
  obtain⟨X,Zy⟩:=cU.1 Zx;rw[kR X,Zy]
 rw[ZW] at Q
 obtain⟨Zz,ZA,ZX,Y⟩:=Q;dsimp only at Zz ZA ZX Y
 subst Zz;have Zak:=(yR _ _ _ Y).1
 have ZY: (⟨C,R,D⟩ :gD)∈s1.ly:=Zj▸c8 Zx
 refine aK ?_;refine iL (E:=kO) aQ om rfl rfl rfl a7 aa (λZal ZZ=>?_);refine cw DK rfl rfl rfl (λZ0 Zk j u P=>Zk.gx (E:=kO) aQ ZZ bz j u P) ?_;refine aq ?_;intro Zl Zam Zan;refine jc ?_;refine Lv underlying4 rfl rfl rfl ?_;refine ah ?_;refine fL rfl ((by simp[ZA])) ?_;refine aK ?_;refine gH rfl rfl rfl (wrap64 bm bm) ?_;refine bo ?_;refine aj (λhid=>?_) (λhid=>?_);refine aJ ?_;exact bg ⟨j+1,C+max 1 D⟩ ⟨by dsimp only;omega,Y,by dsimp only;omega⟩ bm bO (λ_ h=>h.aw ae);refine ay ?_;refine aZ (l0:=[]) aA.nil rfl wx rfl (λf o=>yQ f s1 m (o.has cp)) (λH ZB=>?_);refine aJ ?_;have Zao:H.l.length≤10001:=by rw[ZB];exact m.hq.1
 refine b3 (ι:=Nat) (λk=>[(1,.slice A n q),(5,ptr s1.g),(6,.int .i64 (i:Int)),(7,z.val),(8,.int .i64 (C+max 1 D)),(9,.int .i64 (j:Int)),(10,ptr Zl),(11,H.val),(12,.int .i64 (k:Int))]) (λ_=>af w (aB [d_]) [aD Zl (gD.enc ⟨C,R,D⟩) 36,H.au,z.au,ch s1]) (λk=>k≤H.l.length) (λk=>H.l.length - k) ?_ ?_;exact λw' O=>⟨0,bN _,(su rfl rfl rfl rfl rfl rfl rfl rfl rfl),O.aw ae⟩
 rintro k Zap;refine aJ ?_;refine aj (λZ1=>?_) (λZ1=>?_);obtain⟨v,Z⟩ : ∃v,H.l[k]? = some v:=⟨_,bE aa⟩;have Z2:v∈s1.hq:=ZB▸c8 Z
 refine YD (λZ0 Zk=>Bl (Zk.has (c:=H.au) bF) aa) (λI=>?_);obtain⟨gs,I⟩:=I;have ZC:v.id=R→fH ⟨C,0⟩ v.output=false∧fH v.done ⟨C+max 1 D,0⟩=false:=λe=>Yz m ZY hid Z2 e
 refine ay ?_;refine ew [0,1,2,3,4,5,6,7,8,9,10,11,12,13,14,15,16] 2 [[(17,false,[18,19,20,21,22,23,24,25]),(26,false,[27,28])]] (_) mixed ab (λ_ B=>B.drew) (λ_ h=>(show af _ _ [aD Zl (gD.enc ⟨C,R,D⟩) 36,H.au] _ from h.aw ae)) ?_;refine ar ?_;refine aL rfl (λS J=>(bD (q:=k) kl rfl rfl rfl I rfl aa aG)) ?_;refine aq ?_;refine aL rfl (λS J=>(ba py rfl rfl (λZi U=>by subst U;exact J.gx (E:=hp) bF I Z 0 _ rfl) aG)) ?_;refine aS ?_;refine my 87 rfl (λaH=>?_) (λaH=>?_);have Zm:=aY aH
 refine ay ?_;refine aL rfl (λS J=>cA rfl rfl (aH) (bD (q:=k) kl rfl rfl rfl I rfl aa aG)) ?_;refine aq ?_;refine aL rfl (λS J=>cA rfl rfl (aH) (cw (vs:=v.output.enc) em rfl rfl rfl (λZi U y u V=>by subst U;exact KW (J.gx (E:=hp) bF I Z (6+y) u (YA V))) aG)) ?_;refine ah ?_;refine ao rfl DW rfl (λf G=>KP f ⟨C,0⟩ v.output) ?_;refine bY (_) (λ_ h=> .inr (h.aw ae)) (λ_ h=>h) ?_;refine aq ?_;refine my 97 rfl (λN=>?_) (λN=>?_);have Z3:=aY N
 refine aR ?_;refine bY (λ_=>True) (λ_ h=> .inr ⟨.inr (h.aw ae),h⟩) (λ_ h=>aU) ?_;refine qX ?_;intro K B;exact absurd ((ZC Zm).1.symm.trans N) a1;have Z3:=a8 N
 refine ar ?_;refine aL rfl (λS J=>cA rfl rfl (N) (bD (q:=k) kl rfl rfl rfl I rfl aa aG)) ?_;refine aq ?_;refine aL rfl (λS J=>cA rfl rfl (N) (cw (vs:=v.done.enc) em rfl rfl rfl (λZi U y u V=>by subst U;exact KW (J.gx (E:=hp) bF I Z (8+y) u (YB V))) aG)) ?_;refine ay ?_;refine ao rfl DW rfl (λf G=>KP f v.done ⟨C+max 1 D,0⟩) ?_;refine bY (λ_=>True) (λ_ h=> .inr ⟨.inr (h.aw ae),h⟩) (λ_ h=>aU) ?_;refine ay ?_;refine aj (λZa=>?_) (λZa=>?_);simp only[bU] at Za
 refine gN ?_;intro K B;exact absurd Za (a8 (ZC Zm).2);simp only[bU] at Za
 refine aK ?_;exact bg (k+1) aa aa bO (λ_ h=>h.aw ae);have Zm:=a8 aH
 refine bo ?_;refine bY (_) (λ_ h=> .inr (h.aw ae)) (λ_ h=>h) ?_;refine bo ?_;refine bY (λ_=>True) (λ_ h=> .inr ⟨.inr (h.aw ae),h⟩) (λ_ h=>aU) ?_;refine b5 ?_;exact bg (k+1) aa aa bO (λ_ h=>h.aw ae);refine bo ?_;exact bg ⟨j+1,C+max 1 D⟩ ⟨by dsimp only;omega,Y,by dsimp only;omega⟩ bm bO (λ_ h=>h.aw ae);rw[List.drop_eq_nil_of_le aa] at Q
 have Z4:r=s1.rows:=Q
 subst Z4;have Z5:=m.fS
 have Zaq:=m.high
 have Zar:=m.small
 refine aK ?_;refine aZ (l0:=[]) aA.nil rfl LZ rfl (λf o=>XF f s1 m (o.has bF)) (λ⟨y,tp⟩ V=>?_);refine aK ?_;dsimp only at V
 have W: ∀x:db,bW x.l=s1.ap.r.rows++bW s1.ap.s.l→(x.l.length:Int)=s1.rows:=λx M=>by
  have X: (bW x.l).length=s1.fS.length:=aX List.length M
  have Zy: (bW x.l).length=x.l.length:=by simp[bW]
  have Zas:=Z5.2.2
  omega
 have Z6:cD s1 (8000000*hU (L.take (i+1))+(i+1)) (((i+1 :Nat):Int)*10000000000):=m.mono aa aa
 refine ah ?_;refine cI (λf o=>C2 f s1 m o) (λx M=>?_);refine ah ?_;refine aV 118 rfl (λZn=>?_) (λZn=>?_);have Z7:=aY Zn
 refine FG ?_;intro K B;have Zb:=W x M
 (exfalso;dsimp only at *;omega)
 have Z7:=a8 Zn
 refine bo ?_;refine ao rfl wy rfl (λf G=>yN f s1 (G.has aQ)) ?_;refine aq ?_;refine ao rfl ot rfl (λf G=>o3 f s1.b7 s1.p.g s1.T (vU (G.has aQ))) ?_;refine aq ?_;refine ao rfl jO rfl (λf G=>jW f (firstT s1.T) (vV (G.has aQ))) ?_;refine aq ?_;refine ao rfl pA rfl (λf G=>pU f s1.ap (yM (G.has aQ))) ?_;refine al ?_;refine aV 131 rfl (λZo=>?_) (λZo=>?_);have Z8:=aY Zo
 refine qX ?_;intro K B;have Zb:=W x M
 (exfalso;dsimp only at *;omega)
 have Z8:=a8 Zo
 refine al ?_;refine aV 135 rfl (λZp=>?_) (λZp=>?_);have Z9:=aY Zp
 refine nl ?_;intro K B;have Zb:=W x M
 (exfalso;dsimp only at *;omega)
 have Z9:=a8 Zp
 refine ef ?_;refine aj (λZq=>?_) (λZq=>?_);simp only[bU] at Zq
 refine bw ?_;intro K B;have Zb:=W x M
 (exfalso;dsimp only at *;omega)
 simp only[bU] at Zq
 refine aK ?_;have Zb:=W x M
 exact bg (i+1,s1) ⟨by dsimp only;omega,Z6⟩ bm bO (λ_ h=>h.aw ae);refine bw ?_;intro K B;exact aP.bP () aU rfl (B.d_ (s:=s) aQ)
end Go.Proofs.YtkeokgcdnfjaaaaGreatDoor.Mq
