/- part 40 of the proof -/
import Derived.Test.YtlgnfdodnhokjaaGreatDoorQ39
namespace Go.Proofs.YtlgnfdodnhokjaaGreatDoor.Mq
open Go Go.RowKit Go.Proofs Tryz
def wy (s:bV) (id k:Int):List UInt8 × Bool × Int:=match kl s.st.abs id ⟨s.rows,0⟩ with
 | none=>([],false,5)
 | some b=>match px b k with
  | none=>([],false,1)
  | some (fr,to)=>(if to=⟨s.rows,0⟩ then oi (fT s.ef fr to) else fT s.ef fr to,b.cut,0)
abbrev copyV (t:List UInt8 × Bool × Int):Value:= .tuple #[.string (bs t.1),.bool t.2.1,.int .i64 t.2.2]
theorem YJ {b:fd} {k:Int} {p q:aY} (h:qA b) (ai:px b k=some (p,q)):eq p∧eq q:=by
 unfold px at ai
 split at ai
 cases ai;exact⟨h.start,h.stop⟩
 split at ai
 cases ai;exact⟨h.start,h.input⟩
 split at ai
 cases ai;exact⟨h.input,h.output⟩
 split at ai
 cases ai;exact⟨h.output,h.done⟩
 cases ai
theorem Lh {s:e8} {id:Int} {q:aY} {b:fd} (h:kl s id q=some b):b∈lD s q:=List.mem_of_find?_eq_some h
theorem Li [Inhabited bO] (w:World) (s:bV) {m:Nat} {N:Int} (e:cQ s m N) (p:a8 w [cn s]) (id k:Int):Calls prog 16 [ptr s.g,.int .u64 id,.int .i64 k].toArray w (aP (λ_:Unit=>copyV (wy s id k)) [cn s] (λ_=>[cn s]) (λ_=>True) w):=by
 have Y:=e.rw
 have q:=e.ef
 unfold wy;cases t:kl s.st.abs id ⟨s.rows,0⟩ with
 | none=>
  have n:rU (kl s.st.abs id ⟨s.rows,0⟩)= .tuple #[.agg rT.enc.toArray,.bool false]:=by rw[t];rfl
  refine bI func16 ntmps16 p ?_;refine bp ?_;refine ao rfl sA rfl (λa b=>n▸ue a s e (b.has aT) id) ?_;refine aS ?_;intro G H I;refine e3 (vs:=rT.enc) gz rfl rfl (bn.whole cA bc) rfl (aI.cons rfl (aI.cons rfl (aI.cons rfl (aI.cons rfl (aI.cons rfl (aI.cons rfl (aI.cons rfl (gg rfl rfl rfl rfl rfl rfl rfl rfl rfl rfl)))))))) (by exact dV rfl) ?_;refine hr ?_;intro y d;exact aN () a1 d
 | some v=>
  have n:rU (kl s.st.abs id ⟨s.rows,0⟩)= .tuple #[.agg v.enc.toArray,.bool true]:=by rw[t];rfl
  have O:qA v:=e.jV.2 v (Lh t)
  dsimp only;cases ai:px v k with
  | none=>
   refine bI func16 ntmps16 p ?_;refine bp ?_;refine ao rfl sA rfl (λa b=>n▸ue a s e (b.has aT) id) ?_;refine aS ?_;intro G H I;refine e3 (vs:=v.enc) gz rfl rfl (bn.whole cA bc) rfl (aI.cons rfl (aI.cons rfl (aI.cons rfl (aI.cons rfl (aI.cons rfl (aI.cons rfl (aI.cons rfl (gg rfl rfl rfl rfl rfl rfl rfl rfl rfl rfl)))))))) (by exact dV rfl) ?_;refine bp ?_;have B:Du (px v k)= .tuple #[d_ ⟨0,0⟩,d_ ⟨0,0⟩,.bool false]:=by rw[ai];rfl
   refine aS ?_;refine cx (vs:=v.enc) gz rfl rfl rfl (λP C j u D=>C.k6 (sz:=17) (o:=0) (xs:=v.enc) aT rfl j u D) ?_;refine ar ?_;refine ao rfl Et rfl (λa b=>B▸Lg a v k) ?_;refine ay ?_;intro J Q R;refine ar ?_;intro K S T;refine oP ?_;intro y d;exact aN () a1 d
  | some U=>
   obtain⟨⟨fr,E⟩,⟨f,i⟩⟩:=U;obtain⟨V,L⟩:=YJ O ai;dsimp only[copyV];refine bI func16 ntmps16 p ?_;refine bp ?_;refine ao rfl sA rfl (λa b=>n▸ue a s e (b.has aT) id) ?_;refine aS ?_;intro G H I;refine e3 (vs:=v.enc) gz rfl rfl (bn.whole cA bc) rfl (aI.cons rfl (aI.cons rfl (aI.cons rfl (aI.cons rfl (aI.cons rfl (aI.cons rfl (aI.cons rfl (gg rfl rfl rfl rfl rfl rfl rfl rfl rfl rfl)))))))) (by exact dV rfl) ?_;refine bp ?_;have B:Du (px v k)= .tuple #[d_ ⟨fr,E⟩,d_ ⟨f,i⟩,.bool true]:=by rw[ai];rfl
   refine aS ?_;refine cx (vs:=v.enc) gz rfl rfl rfl (λP C j u D=>C.k6 (sz:=17) (o:=0) (xs:=v.enc) aT rfl j u D) ?_;refine ar ?_;refine ao rfl Et rfl (λa b=>B▸Lg a v k) ?_;refine ay ?_;intro J Q R;refine ar ?_;intro K S T;refine bH ?_;have Z:=r0 q.1 q.2.1 ⟨fr,E⟩ ⟨f,i⟩
   refine ah ?_;refine eF [0,2,3] 2 [[(1,false,[]),(4,false,[5])]] (_) mixed ab (λ_ d=>d.drew) (λ_ h=>(show af _ _ [aD J _ 35,aD K _ 35] _ from h.ax ae)) ?_;refine ay ?_;refine cJ (λa b=>Dt a s e b) (λz M=>?_);refine b3 (λ_=>True) (λ_ h=> .inr (h.ax ae)) (λ_ h=>a1) ?_;refine aq ?_;refine ao rfl uI rfl (λa b=>wt a _ z.A z.l.length z.c s.ef ((show b5 z.l=s.ef from M)▸oW (b.has (c:=z.au) bJ) (b.has (c:=z.b9) cr)) ⟨fr,E⟩ ⟨f,i⟩ (by have:=aU List.length (show b5 z.l=s.ef from M);rw[cB] at this;omega) V.1 L.2.1 L.1 (λr W x X=>by have:=(q.1 r W).2 x X;omega) aa) ?_;refine b3 (λ_=>True) (λ_ h=> .inr ⟨.inr (h.ax ae),dp⟩) (λ_ h=>a1) ?_;refine al ?_;refine bF [0,1] 1 [[(2,false,[3])]] ?_;refine aS ?_;refine ao rfl wU rfl (λa b=>y_ a s e (b.has aT)) ?_;refine ar ?_;refine aL rfl (λZa Zb=>(zx Ea rfl rfl rfl ab (rfl) aG)) ?_;refine ah ?_;refine b1 rfl (λF=>?_) (λF=>?_);refine aq ?_;refine ao rfl M0 rfl (λa b=>Yr a _ aa) ?_;refine aS ?_;refine bF [0,1,2,3,4,5] 0 [[]] ?_;refine bp ?_;intro y d;exact aP.bQ () a1 (by rw[aw (aX ((AE ⟨f,i⟩ ⟨s.rows,0⟩).symm.trans F))]) (d.ax ae);refine ah ?_;refine bF [0,1,2,3,4,5] 0 [[]] ?_;refine bp ?_;intro y d;exact aP.bQ () a1 (by rw[ag (bd ((AE ⟨f,i⟩ ⟨s.rows,0⟩).symm.trans F))]) (d.ax ae)
theorem Lj [Inhabited bO] (w:World) (s:bV) {m:Nat} {N:Int} (C:cQ s m N) (Zb:a8 w [cn s]) (sn:List UInt8) (Zc:sn.length≤1000000) (k:Int):Calls prog 9 [ptr s.g,.string (bs sn),.int .i64 k].toArray w (aP (λi:ee × Int=> .tuple #[i.1.val,.int .i64 i.2]) [cn s] (λi=>[cn s,i.1.au]) (λi=>k= -1→sn≠[]→i.2=0∧i.1.l=findF s.ef sn) w):=by
 have Zw:=C.rw
 have D:=C.ef
 have Zd: ∃v:fd,∃o:Bool,rU (kl s.st.abs (IntKind.u64.wrap k) ⟨s.rows,0⟩)= .tuple #[.agg v.enc.toArray,.bool o]∧(o=true→qA v):=by
  cases Ze:kl s.st.abs (IntKind.u64.wrap k) ⟨s.rows,0⟩ with
  | none=>exact⟨rT,false,rfl,λh=>by cases h⟩
  | some v=>exact⟨v,true,rfl,λ_=>C.jV.2 v (Lh Ze)⟩
 obtain⟨v,o,Zf,V⟩:=Zd;refine bI func9 ntmps9 Zb ?_;refine bH ?_;refine aj (λM=>?_) (λM=>?_);refine aJ ?_;intro O f;exact aP.bQ (⟨none,0,[]⟩,1) (λ_ h=>absurd M h) rfl ((f.eU 35 cf).ax ae);have Zg:1≤sn.length:=by
  rcases gw sn.length with P | P
  have Zh:=iC P
  subst Zh;exact absurd rfl M;exact P
 refine aC ?_;intro I Zx Zy;refine ar ?_;intro J Zz ZA;refine b7 ?_;refine ao rfl wU rfl (λd e=>y_ d s C (e.has cr)) ?_;refine ay ?_;refine hL (λb:Bool=>[(0,ptr s.g),(1,.string (bs sn)),(2,.int .i64 k),(8,ptr I),(9,ptr J),(30,.bool b)]) (λ_=>af w (aB [cn s]) [aD J (aY.enc ⟨s.rows,0⟩) 35,aD I (aY.enc ⟨0,0⟩) 35,cn s]) (λb=>b=true→k≠ -1) ?_ ?_;refine aS ?_;refine aW 27 rfl (λQ=>?_) (λQ=>?_);have W:=aX Q
 refine aS ?_;exact dr true (λ_=>W) (ip rfl rfl rfl rfl rfl rfl) (λ_ h=>h.ax ae);have W:=bd Q
 refine al ?_;exact dr false (λh=>Bool.noConfusion h) bR (λ_ h=>h.ax ae);rintro b R;refine ar ?_;refine JO (λ_:aY × aY=>[(0,ptr s.g),(1,.string (bs sn)),(8,ptr I),(9,ptr J)]) (λi=>af w (aB [cn s]) [aD J i.2.enc 35,aD I i.1.enc 35,cn s]) (λi=>eq i.1∧eq i.2∧(k= -1→i=(⟨0,0⟩,⟨s.rows,0⟩))) ?_ ?_;refine b1 rfl (λaH=>?_) (λaH=>?_);refine aS ?_;refine dn rfl rfl underlying3 underlying54 rfl ?_;refine ao rfl sA rfl (λd e=>Zf▸ue d s C (e.has cr) _) ?_;refine aS ?_;intro Zi ZB ZC;refine e3 (vs:=v.enc) gz rfl rfl (bn.whole cA bc) rfl (aI.cons rfl (aI.cons rfl (aI.cons rfl (aI.cons rfl (aI.cons rfl (aI.cons rfl (aI.cons rfl (gg rfl rfl rfl rfl rfl rfl rfl rfl rfl rfl)))))))) (by exact dV rfl) ?_;refine aJ ?_;refine aW 40 rfl (λS=>?_) (λS=>?_);refine b7 ?_;refine CG (wF ?_);refine ar ?_;intro O f;exact aP.bQ (⟨none,0,[]⟩,5) (λh _=>absurd h (R bv)) rfl ((f.eU 35 cf).ax ae);refine aC ?_;refine aj (λZj=>?_) (λZj=>?_);refine aK ?_;refine CG (wF ?_);refine ar ?_;intro O f;exact aP.bQ (⟨none,0,[]⟩,5) (λh _=>absurd h (R bv)) rfl ((f.eU 35 cf).ax ae);refine aq ?_;refine eF [0,1,2,3] 2 [[(4,false,[]),(5,false,[])]] (_) mixed ab (λ_ f=>f.drew) (λ_ h=>(show af _ _ [aD Zi v.enc 58] _ from h.ax ae)) ?_;refine aC ?_;refine b3 (λ_=>True) (λ_ h=> .inr (h.ax ae)) (λ_ h=>a1) ?_;refine ah ?_;refine b3 (λ_=>True) (λ_ h=> .inr ⟨.inr (h.ax ae),dp⟩) (λ_ h=>a1) ?_;refine aq ?_;exact iv (v.start,v.stop) ⟨(V (by simpa using S)).start,(V (by simpa using S)).stop,λh=>absurd h (R bv)⟩ bR (λ_ h=>h.ax ae);refine ar ?_;exact iv (⟨0,0⟩,⟨s.rows,0⟩) ⟨by dsimp only[eq];omega,by dsimp only[eq];omega,λ_=>rfl⟩ (cj rfl rfl rfl rfl) (λ_ h=>h.ax ae);rintro⟨⟨fr,F⟩,⟨G,H⟩⟩ ⟨X,K,Zk⟩;have ZD:=r0 D.1 D.2.1 ⟨fr,F⟩ ⟨G,H⟩
 refine aS ?_;refine cJ (λd e=>Dt d s C e) (λz Zl=>?_);refine ar ?_;have T:b5 z.l=s.ef:=Zl
 have ZE:z.l.length=s.ef.length:=by rw[←T,cB]
 refine aC ?_;refine a6 (l0:=[]) aA.nil rfl MR rfl (λd e=>Yk d _ z.A z.l.length z.c s.ef (T▸oW (e.has (c:=z.au) bJ) (e.has (c:=z.b9) cr)) ⟨fr,F⟩ ⟨G,H⟩ aa X.1 K.2.1 K.1 (λr U x n=>by have:=(D.1 r U).2 x n;omega) aa) (λy Y=>?_);refine b7 ?_;refine ao rfl uI rfl (λd e=>wt d _ z.A z.l.length z.c s.ef (T▸oW (e.has (c:=z.au) cr) (e.has (c:=z.b9) gD)) ⟨fr,F⟩ ⟨G,H⟩ aa X.1 K.2.1 K.1 (λr U x n=>by have:=(D.1 r U).2 x n;omega) aa) ?_;refine ar ?_;refine a6 (l0:=[]) aA.nil rfl MS rfl (λd _=>X4 d _ sn aa ⟨Zg,Zc⟩) (λx n=>?_);refine ay ?_;refine cH (H':=af w (aB [cn s]) [ee.au ⟨none,0,[]⟩,x.au,y.au,cn s]) ?_ (Sub.refl _) (λu Zm=>(Zm.eU 35 cf).ax ae);refine b2 (ι:=Nat × ee) (λt=>[(13,y.val),(14,t.2.val),(59,x.val),(60,.int .i64 (x.l.length:Int)),(61,.int .i64 (t.1 :Int))]) (λt=>af w (aB [cn s]) [t.2.au,x.au,y.au,cn s]) (λt=>t.1≤x.l.length∧t.2.l=(x.l.take t.1).map (g_ y.l)) (λt=>x.l.length - t.1) ?_ ?_;exact λw' Zn=>⟨(0,⟨none,0,[]⟩),⟨bP _,rfl⟩,(ec rfl rfl rfl rfl rfl),Zn.ax ae⟩
 rintro⟨i,q⟩ ⟨hi,L⟩;dsimp only at hi L ⊢
 have ZF:x.l.length≤(fT s.ef ⟨fr,F⟩ ⟨G,H⟩).length:=by rw[n];exact uX _ _ _
 have ZG:q.l.length=i:=by rw[L,cB,dl];omega
 have ZH:y.l.length=(fT s.ef ⟨fr,F⟩ ⟨G,H⟩).length:=by rw[Y,cB,xA]
 refine al ?_;refine aj (λZo=>?_) (λZo=>?_);obtain⟨a,Z⟩ : ∃a,x.l[i]? = some a:=⟨_,bE aa⟩;have Za:=sR (n▸da Z) (bW _)
 have ZI:=Za.1
 have ZJ:=Za.2.1
 obtain⟨j,rfl⟩ : ∃j:Nat,a=(j:Int):=⟨a.toNat,aa⟩;obtain⟨⟨Zp,Zq⟩,ai⟩ : ∃p,y.l[j]? = some p:=⟨_,bE aa⟩;refine al ?_;refine jr (E:=bT) bJ dL rfl rfl rfl bc aa (λZK Zr=>?_);refine a_ bN rfl rfl (λZs B=>B.If (E:=bT) bJ Zr bv _ rfl) ?_;refine aC ?_;refine jr (E:=cf) cr dD rfl rfl rfl bc aa (λZL Zt=>?_);refine cx eg rfl rfl rfl (λZs B j u Zu=>B.gJ (E:=cf) cr Zt bv j u Zu) ?_;refine dy (E:=cf) ⟨_,_⟩ dD rfl rfl rfl rfl rfl (λZM ZN ZO=>?_);refine eC (E:=cf) dD rfl rfl rfl bj (λ_ _=>cA) b4 b4 (λZP ZQ=>?_);refine aK ?_;exact bi (i+1,⟨_,_,q.l++[⟨Zp,Zq⟩]⟩) ⟨aa,by dsimp only;rw[L,fR,Z,fQ];show _=_++[g_ y.l (j:Int)];unfold g_;rw[fV,ai];rfl⟩ bm (ec rfl rfl rfl rfl rfl) (λ_ h=>h.ax ae);refine b7 ?_;intro O f;exact aN (q,0) (λh _=>⟨rfl,by have B:=Zk h;injection B with B Zv;rw[L,ev aa,n,Y];unfold findF;rw[←B,D.2.2,←Zv]⟩) f
structure Dv (rows cols lines b n:Int) (i:bV):Prop where
 ok:cQ i 0 0
 T:i.T.abs=yT rows cols lines
 p:i.p=pt i.p.g n
 st:i.st.abs=⟨[],b,0,[]⟩
 es:i.es= #[]
 room:i.ap.r.room=lines
abbrev zb (g cb ap gs a c:Nat) (n b p:Int) (T:bL):bV:=⟨g,0,true,cb,pt ap n,T,⟨gs,none,0,[],b,0,[]⟩,⟨a,⟨none,0,[]⟩,p⟩,c,#[],0⟩
theorem YK [Inhabited bO] (g cb ap gs c d:Nat) (n b p:Int) (T:bL) {rows cols lines:Int} (f:1≤b∧b≤10000) (ai:1≤p∧p≤10000) (i:1≤n∧n≤65536) (h:cp cb lines 0 T∧T.abs=yT rows cols lines):Dv rows cols lines b n (zb g cb ap gs c d n b p T) where
 ok:=⟨Ww i,⟨h.1.am,h.1.bk,rfl,h.1.bM,h.1.cm,h.1.bf,h.1.buf,h.1.aF,h.1.md⟩,⟨⟨f,by show ((0 :Nat):Int)≤b;omega,⟨iB 0,iB 0⟩,λe a=>(by cases a),List.Pairwise.nil,bP _⟩,λe a=>(by cases a)⟩,⟨by show ((0 :Nat):Int)≤p;omega,ai⟩,λx j=>by simp at j,⟨iB 0,(by decide: (0 :Int)≤1000000)⟩⟩
 T:=h.2
 p:=rfl
 st:=rfl
 es:=rfl
 room:=h.1.room
theorem Lk [Inhabited bO] (w:World) (q:a8 w [ei]) (rows cols lines b p n:Int) (r:1≤rows∧rows≤100) (s:2≤cols∧cols≤100) (t:0≤lines∧lines≤100) (k:1≤b∧b≤10000) (ai:1≤p∧p≤10000) (m:1≤n∧n≤65536):
 Calls prog 14 [.agg #[.int .i64 rows,.int .i64 cols,.int .i64 lines,.int .i64 b,.int .i64 p,.int .i64 n]].toArray w (aP (λi:bV=> .tuple #[ptr i.g,.int .i64 0]) [ei] (λi=>[cn i]) (Dv rows cols lines b n) w):=by
 refine bI func14 ntmps14 q ?_;refine ah ?_;intro x y z;refine b7 ?_;refine a6 (l0:=[]) aA.nil rfl MW rfl (λa _=>Wy a rows cols lines n r s t m) (λi hi=>?_);refine bp ?_;refine a6 (l0:=[]) aA.nil rfl MX rfl (λa _=>W0 a b k) (λgs _=>?_);refine bp ?_;refine a6 (l0:=[]) aA.nil rfl MY rfl (λa _=>WB a p ai) (λc _=>?_);refine bH ?_;refine aW 36 rfl (λd=>?_) (λd=>?_);have u:=aX d
 refine eL ?_;intro e f;exact absurd d aZ;have u:=bd d
 refine al ?_;refine aW 40 rfl (λaH=>?_) (λaH=>?_);have v:=aX aH
 refine cF ?_;intro e f;exact absurd aH aZ;have v:=bd aH
 refine aC ?_;refine aj (λo=>?_) (λo=>?_);refine aJ ?_;intro e f;exact absurd o aZ;refine aK ?_;refine Yu rfl (λh A B=>?_);refine aq ?_;intro j C D;refine al ?_;intro e f;exact aP.bQ (zb j i.1 i.2.1 gs c h n b p i.2.2) (YK j i.1 i.2.1 gs c h n b p i.2.2 k ai m hi) rfl ((((((show af w (aB [ei]) ((zb j i.1 i.2.1 gs c h n b p i.2.2).an::_) e from f).close (l:=cV ⟨gs,none,0,[],b,0,[]⟩) ae).close (l:=gb ⟨c,⟨none,0,[]⟩,p⟩) ae).close (l:=fo (pt i.2.1 n) i.1 i.2.1 i.2.2) ae).close (l:=cW (zb j i.1 i.2.1 gs c h n b p i.2.2)) ae).ax ae)
def wz (s:e8) (c:me):e8:=if c.told=false then rQ s ⟨c.hd,c.kf,c.sn⟩ else if c.kind=7 then s else gu s ⟨c.kind,c.code,c.has,c.text⟩ ⟨c.row,c.cM⟩
def r1 (s:e8) (l:List me):e8:=l.foldl wz s
theorem YL (s:e8) {l:List me} {i:Nat} {c:me} (h:l[i]? = some c):r1 s (l.take (i+1))=wz (r1 s (l.take i)) c:=by
 unfold r1;rw[fR,h,List.foldl_append];rfl
theorem fP.mono {s:cO} {N M:Int} (h:fP s N) (a:N≤M):fP s M:=⟨{ h.wf with ids:=⟨h.wf.ids.1,Int.le_trans h.wf.ids.2 a⟩ },h.br⟩
structure YM (s:bV) (m:Nat) (N:Int) (i:bV):Prop where
 g:i.g=s.g
 ok:cQ i m (N+m)
 st:i.st.abs=r1 s.st.abs (iw s.T.abs).aF
 T:i.T.abs= { iw s.T.abs with aF:=[] }
 p:i.p=s.p
 es:i.es=s.es
 room:i.ap.r.room=s.ap.r.room
theorem cQ.Dw {s:bV} {m:Nat} {N:Int} (h:cQ s m N) {R:Int} (a:s.ap.r.room=R):cp s.cb R m s.T:=a▸h.T
theorem Ll [Inhabited bO] (w:World) (s:bV) {m:Nat} {N:Int} (o:cQ s m N) (R:a8 w [cn s]) (S:m≤900000000000) (Ze:N≤900000000000000):Calls prog 43 [ptr s.g].toArray w (aP (λ_:bV=> .tuple #[]) [cn s] (λi=>[cn i]) (YM s m N) w):=by
 obtain⟨g,top,dm,cb,p,T,st,cY,dq,es,ck⟩:=s;have K:=o.Dw rfl
 have L:=o.st
 have M:=o.cY
 dsimp only at K L M
 refine calls (n:=58) func43 rfl ntmps43 rfl ?_;refine cH (H':=af w (aB [cn ⟨g,top,dm,cb,p,T,st,cY,dq,es,ck⟩]) (cW ⟨g,top,dm,cb,p,T,st,cY,dq,es,ck⟩)) ?_ (Sub.refl _) (λx F=>by have h:=(R.start x F).open (l:=cW ⟨g,top,dm,cb,p,T,st,cY,dq,es,ck⟩) bj;rwa [eu] at h);refine al ?_;refine ld (lc:=fo p cb p.g T) cw<| a6 (l0:=bz cb p.g ei T) ae rfl Nc rfl (λb c=>Wm b cb p.g ei T (c.bo ae) K S) (λ⟨bu,z⟩ U=>?_)
 refine aS ?_;refine cH (H':=af w (aB [cn ⟨g,top,dm,cb,p,T,st,cY,dq,es,ck⟩]) (z.au::cW ⟨g,top,dm,cb,p,bu,st,cY,dq,es,ck⟩)) ?_ (Sub.refl _) (λx F=>(F.close (l:=fo p cb p.g bu) ae).ax ae);obtain⟨a,O,P,V,Q⟩:=U;dsimp only at a O P V Q
 refine ar ?_;refine b2 (ι:=Nat × cO × hz) (λt=>[(0,ptr g),(8,z.val),(9,.int .i64 (z.l.length:Int)),(10,.int .i64 (t.1 :Int))]) (λt=>af w (aB [cn ⟨g,top,dm,cb,p,T,st,cY,dq,es,ck⟩]) (z.au::cW ⟨g,top,dm,cb,p,bu,t.2.1,t.2.2,dq,es,ck⟩)) (λt=>t.1≤z.l.length∧t.2.1.g=st.g∧t.2.2.g=cY.g∧fP t.2.1 (N+t.1)∧rO t.2.2∧t.2.1.abs=r1 st.abs (z.l.take t.1)) (λt=>z.l.length - t.1) ?_ ?_;exact λw' W=>⟨(0,st,cY),⟨bP _,rfl,rfl,by simpa using L,M,rfl⟩,(cj rfl rfl rfl rfl),W⟩
 rintro⟨i,s1,dP⟩ ⟨hi,B,C,y,A,G⟩;dsimp only at hi B C y A G ⊢
 refine al ?_;refine aj (λX=>?_) (λX=>?_);obtain⟨v,H⟩ : ∃v,z.l[i]? = some v:=⟨_,bE aa⟩;have Y:=Q v (da H)
 have D:=YL st.abs H
 rw[←G] at D
 refine al ?_;refine jr (E:=lw) aT q3 rfl rfl rfl bc aa (λZf Z=>?_);refine cx (vs:=v.enc) Eh rfl rfl rfl (λZg Za j u Zb=>Za.gJ (E:=lw) aT Z H j u Zb) ?_;refine ar ?_;intro Zh Zi Zj;refine e3 (vs:=v.enc) Eh rfl rfl (bn.whole cA bc) rfl (gg rfl rfl rfl rfl rfl rfl rfl rfl rfl rfl) (by exact dV rfl) ?_;refine bp ?_;refine b1 rfl (λf=>?_) (λf=>?_);have Zc:=f
 simp only[bZ] at f
 refine ar ?_;refine bF [0,1,2,3,4,5] 1 [[(6,true,[])]] ?_;refine aK ?_;refine cJ (λb c=>Calls.mono (Xu b s1 c.i7 y ⟨v.hd,v.kf,v.sn⟩) (λe w' h=>aP.star h)) (λq d=>?_);refine aS ?_;refine bF [0,1,2,3,4,5] 1 [[(6,true,[])]] ?_;refine aK ?_;refine cJ (λb c=>Calls.mono (WQ b dP c.i7 A ⟨v.hd,v.kf,v.sn⟩) (λe w' h=>aP.star h)) (λr k=>?_);refine aQ ?_;exact bi (i+1,q,r) ⟨aa,d.g.trans B,k.g.trans C,d.ok.mono bm,k.ok,by dsimp only;rw[D,d.abs,wz,aw f]⟩ bm bR (λ_ h=>by have I:=d.g;have J:=k.g;simp only[cW,bV.an,ud,I,J];exact h.ax ae);have Zc:=f
 simp only[bZ] at f
 refine aQ ?_;refine aj (λaH=>?_) (λaH=>?_);refine bF [0,1,2,3,4,5,6] 1 [[(7,true,[])]] ?_;refine aJ ?_;refine cJ (λb c=>Calls.mono (WC b dP c.i7 A ⟨v.row,v.cM⟩) (λe w' h=>aP.star h)) (λr k=>?_);refine aQ ?_;exact bi (i+1,s1,r) ⟨aa,B,k.g.trans C,y.mono bm,k.ok,by dsimp only;rw[D,wz,ag (by rw[f];decide),aw aH]⟩ bm bR (λ_ h=>by have J:=k.g;simp only[cW,bV.an,ud,J];exact h.ax ae);refine bF [0,1,2,3,4,5,6,7,8,9] 1 [[(10,true,[])]] ?_;refine bx ?_;refine a6 (l0:=[aR (cV s1)]) (v:=λ_:cO=> .tuple #[]) (l':=λq=>[aR (cV q)]) (ok:=jy s1 (N+i) ⟨v.kind,v.code,v.has,v.text⟩ ⟨v.row,v.cM⟩) ae rfl Nd rfl (λb c=>Calls.mono (Xh b s1 (c.bo ae).i7 y aa ⟨v.kind,v.code,v.has,v.text⟩ Y ⟨v.row,v.cM⟩) (λe w' h=>aP.star h)) (λq d=>?_);refine aQ ?_;exact bi (i+1,q,dP) ⟨aa,d.g.trans B,C,d.ok.mono bm,A,by dsimp only;rw[D,wz,ag (by rw[f];decide),ag aH,d.abs]⟩ bm bR (λ_ h=>by have I:=d.g;simp only[cW,bV.an,ud,I];exact h.ax ae);refine ay ?_;intro Zk Zd;refine aP.bQ ⟨g,top,dm,cb,p,bu,s1,dP,dq,es,ck⟩ ⟨rfl,⟨o.par,?_,y.mono aa,A,o.mp,o.top⟩,?_,P,rfl,rfl,a.room⟩ rfl ((Zd.close (l:=cW ⟨g,top,dm,cb,p,bu,s1,dP,dq,es,ck⟩) ae).ax ae);exact⟨a.am,a.bk,rfl,a.bM,a.cm,a.bf,a.buf,a.aF,a.md⟩;show s1.abs=_;rw[G,ev aa,O]
structure Lm (s:bV) (m:Nat) (N:Int) (L:List UInt8) (i:bV):Prop where
 g:i.g=s.g
 ok:cQ i (m+8000000*L.length) (N+(m+8000000*L.length:Nat))
 ex: ∃bu,vX s.p s.T.abs L i.p bu∧i.st.abs=r1 s.st.abs (iw bu).aF∧i.T.abs= { iw bu with aF:=[] }
 most:i.p.most=s.p.most
 es:i.es=s.es
 room:i.ap.r.room=s.ap.r.room
theorem Ln [Inhabited bO] (w:World) (s:bV) {m:Nat} {N:Int} (b:cQ s m N) (C:a8 w [cn s]) (D:m≤100000000000) (M:N≤800000000000000) (A:Option Addr) (n c:Nat) (L:List UInt8) (j:Rd cz w (λk=>k∉aB [cn s]) A n c L) (E:n≤1000):Calls prog 15 [ptr s.g,.slice A n c].toArray w (aP (λ_:bV=> .tuple #[]) [cn s] (λi=>[cn i]) (Lm s m N L) w):=by
 have F:=j.len
 obtain⟨g,top,dm,cb,p,T,st,cY,dq,es,ck⟩:=s;have o:=b.Dw rfl
 have r:=b.st
 have t:=b.cY
 dsimp only at o r t
 have G: ∀k,k∉aB [cn ⟨g,top,dm,cb,p,T,st,cY,dq,es,ck⟩]→k∉aB (fo p cb p.g T):=(λk H h=>H (by
  rw[show aB [cn ⟨g,top,dm,cb,p,T,st,cY,dq,es,ck⟩]=aB (cW ⟨g,top,dm,cb,p,T,st,cY,dq,es,ck⟩) by simp[aB,aR]];exact e_.2 ⟨aR (fo p cb p.g T),by simp,h⟩))
 refine calls (n:=14) func15 rfl ntmps15 rfl ?_;refine cH (H':=af w (aB [cn ⟨g,top,dm,cb,p,T,st,cY,dq,es,ck⟩]) (cW ⟨g,top,dm,cb,p,T,st,cY,dq,es,ck⟩)) ?_ (Sub.refl _) (λx e=>by have h:=(C.start x e).open (l:=cW ⟨g,top,dm,cb,p,T,st,cY,dq,es,ck⟩) bj;rwa [eu] at h);refine b7 ?_;refine ld (lc:=fo p cb p.g T) cw<| a6 (l0:=fo p cb p.g T) ae rfl MZ rfl (λf d=>Wv f cb p T (d.bo ae) b.par o A n c L ((j.ext d.ext (λ_ h=>h)).dC G) E D) (λ⟨q,bu⟩ I=>?_)
 refine aq ?_;obtain⟨u,v,y,a,z⟩:=I;dsimp only at u v y a z
 refine cH (H':=af w (aB [cn ⟨g,top,dm,cb,p,T,st,cY,dq,es,ck⟩]) [cn ⟨g,top,dm,cb,q,bu,st,cY,dq,es,ck⟩]) ?_ (Sub.refl _) (λx e=>by have B:=e.close (l:=fo q cb p.g bu) ae;rw[show fo q cb p.g bu=fo q cb q.g bu by rw[u]] at B;exact (B.close (l:=cW ⟨g,top,dm,cb,q,bu,st,cY,dq,es,ck⟩) ae).ax ae);have J:cQ ⟨g,top,dm,cb,q,bu,st,cY,dq,es,ck⟩ (m+8000000*n) N:=⟨v,⟨a.am,a.bk,rfl,a.bM,a.cm,a.bf,a.buf,a.aF,a.md⟩,r,t,b.mp,b.top⟩
 refine aq ?_;refine a6 (l0:=[cn ⟨g,top,dm,cb,q,bu,st,cY,dq,es,ck⟩]) ae rfl Es rfl (λf d=>Ll f _ J (d.bo ae) aa aa) (λi hi=>?_);refine aq ?_;intro O K;refine aN i ⟨hi.g,?_,⟨bu.abs,hi.p.symm▸z,hi.st,hi.T⟩,by rw[hi.p];exact y,hi.es,?_⟩ K;rw[F];exact hi.ok
 rw[hi.room];exact a.room
abbrev gP (l:List bh):Prop:= ∀c∈l,c.more.length≤32
def ko (cols:Nat) (l:List bS):Prop:= ∀g∈l,g.cells.length=cols∧gP g.cells
theorem ko.snoc {cols:Nat} {l:List bS} {g:bS} (h:ko cols l) (b:g.cells.length=cols∧gP g.cells):ko cols (l++[g]):=λx a=>by
 rcases cZ.1 a with a | a
 exact h x a;rw[eb] at a;subst a;exact b
theorem Lo {l:List bh} (h:gP l):gP (dg l):=xJ (P:=λc=>c.more.length≤32) (λ_ _=>bP _) h
theorem YN {l:List bh} (h:gP l):gP (u0 l):=Lo (λc a=>by
 obtain⟨d,ak,rfl⟩:=dH.1 a;unfold nE;split
 exact bP _;exact h d ak)
def oj (left:List bh) (cols:Nat):List bh:=left.take (eM left cols)++List.replicate (cols - eM left cols) gZ
theorem YO (left:List bh) (cols:Nat): (oj left cols).length=cols:=by
 have:=AK left cols
 unfold oj;rw[b6,dl,hj];omega
theorem YP {left:List bh} (h:gP left) (cols:Nat):gP (oj left cols):=λc a=>by
 rcases cZ.1 a with a | a
 exact h c (iE a);rw[(uu.1 a).2];exact bP _
theorem YQ {l:List bh} (h:gP l) (i:Nat):gP (l.set i rg):=λc a=>by
 rcases r_ a with a | rfl
 exact h c a;exact bP _
theorem YR {left:List bh} {cols:Nat} (h:eM left cols<cols): (bK.all (oj left cols)).set (eM left cols*8+2) (.int .i64 3)=bK.all ((oj left cols).set (eM left cols) rg):=by
 refine bK.pF (j:=2) (a':=rg) (v:= .int .i64 3) (a:=gZ) ?_ aZ rfl;have:=AK left cols
 unfold oj;rw[kp (by rw[dl];omega),dl,r8,aw aa]
structure YS where
 z:de
 A:Option Addr
 n:Nat
 c:Nat
 left:List bh
theorem YT (w:World) (F:Nat→Prop) (A:Option Addr) (n c:Nat) (l:List bh) (cols:Nat) (C:Rd bK w F A n c l) (Q:n≤1000000) (R:2≤cols) (S:cols≤1000) (T:gP l):
 Calls prog 271 [.slice A n c,.int .i64 (cols:Int)].toArray w (aP (λz:de=>z.val) [] (λz=>[z.au,z.b9]) (λz=>ko cols z.l∧1≤z.l.length∧z.l.length≤l.length+1) w):=by
 have Zk:=C.len
 refine aV func271 ntmps271 ?_;refine aJ ?_;refine ao rfl E_ rfl (λw' _=>uZ w' _) ?_;refine ah ?_;refine fA rfl (by simp;omega) ?_;refine ay ?_;refine zz rfl O3 rfl (λw' e=>Qa w' F A n c l (C.ext e.ext av) Q) (λZl f U V W Zm Zn Y D=>?_);refine aJ ?_;have G:=P_ l
 have Z:=YN T
 have Zo:=D.len
 refine cH (H':=af f [] [de.au ⟨none,0,[]⟩,de.b9 ⟨none,0,[]⟩]) ?_ (Sub.refl _) (λx r=>((r.eU 144 cl).tF).ax ae);refine ar ?_;refine b2 (ι:=YS) (λt=>[(1,.int .i64 (cols:Int)),(5,.slice t.A t.n t.c),(6,t.z.val)]) (λt=>af f [] [t.z.au,t.z.b9]) (λt=>ko cols t.z.l∧Rd bK f (λ_=>True) t.A t.n t.c t.left∧gP t.left∧(t.z.l.length=0→t.left.length≤l.length)∧t.z.l.length+t.left.length≤l.length+1) (λt=>if t.z.l.length=0 then l.length+2 else t.left.length) ?_ ?_;exact λw' e=>⟨⟨⟨none,0,[]⟩,U,V,W,u0 l⟩,⟨λ_ h=>by simp at h,D.dC (λ_ _=>a1),Z,λ_=>by rw[G];exact bW _,by show 0+_≤_;rw[G];omega⟩,(em rfl rfl rfl),e⟩
 rintro⟨z,i,d,lc,left⟩ ⟨s,j,u,Za,Zb⟩;dsimp only at s j u Za Zb ⊢
 have Zp:=j.len
 have Zq:=j.cap
 have Zr:=AK left cols
 have H:left≠[]→1≤eM left cols:=λh=>Qb left cols R h
 refine aq ?_;refine hL (λb:Bool=>[(1,.int .i64 (cols:Int)),(5,.slice i d lc),(6,z.val),(21,.bool b)]) (λ_=>af f [] [z.au,z.b9]) (λb=>b=true↔(z.l.length=0∨0<d)) ?_ ?_;refine ay ?_;refine aW 17 rfl (λv=>?_) (λv=>?_);have Zc:=aX v
 refine ay ?_;refine dr _ ?_ (cj rfl rfl rfl rfl) (λ_ h=>h);exact⟨λ_=> .inl aa,λ_=>rfl⟩;have Zc:=bd v
 refine aK ?_;refine dr _ ?_ (cj rfl rfl rfl rfl) (λ_ h=>h)
 (simp only[e9];omega)
 rintro b I;refine ar ?_;refine b1 rfl (λy=>?_) (λy=>?_);have Zs:=I.1 y
 have m:=YO left cols
 have J:=YP u cols
 have K:=Qc left cols
 have L:=j.cut (p:=0) (q:=eM left cols) aa aa
 have M:=j.cut (p:=eM left cols) (q:=d) aa (bW _)
 rw[nf] at L
 rw[ev (show left.length≤d by omega)] at M
 have Zd:z.l.length+1+(left.length - eM left cols)≤l.length+1:=by
  by_cases k:left=[]
  subst k;simp only[lL] at *;omega
  have:=H k;omega
 have Ze:left.length - eM left cols<(if z.l.length=0 then l.length+2 else left.length):=by
  by_cases k:left=[]
  subst k;simp only[lL] at *;split <;> omega
  have:=H k;split <;> omega
 refine aC ?_;refine ao rfl O4 rfl (λw' e=>AI w' _ i d lc left cols (j.ext e.ext av) aa aa S) ?_;refine al ?_;refine sq cols dv rfl rfl rfl rfl (by simp only[maxLen];omega) aa (λg Zt Zu=>?_);refine aS ?_;rw[Gh];refine aS ?_;refine fz 0 (eM left cols) dv rfl rfl (.inr ⟨rfl,rfl⟩) (.inl ⟨_,_,rfl,rfl,rfl⟩) aa aa ?_;refine D5 (E:=bK) (src:=left.take (eM left cols)) dv rfl rfl rfl cA (λw' e=>L.ext e.ext av) aa ?_;refine aS ?_;rw[kr,Qd,List.drop_replicate,←bK.all_append];refine cH (H':=af f [] [bS.aF ⟨some ⟨g,0,none⟩,cols,false,oj left cols⟩,z.au,z.b9]) ?_ (Sub.refl _) (λx r=>by simp only[bS.aF,dN,bS.val,m];exact r);refine ah ?_;refine fz (eM left cols) d dv rfl rfl (.inl ⟨_,_,rfl,rfl,rfl⟩) (.inr ⟨rfl,rfl⟩) aa aa ?_;refine aS ?_;refine hL (λb:Bool=>[(1,.int .i64 (cols:Int)),(5,.slice (if lc=eM left cols then i else i.map (λx=>x.add (eM left cols*8))) (d - eM left cols) (lc - eM left cols)),(6,z.val),(7,.int .i64 (eM left cols:Int)),(8,.slice (some ⟨g,0,none⟩) cols cols),(43,.bool b)]) (λ_=>af f [] [bS.aF ⟨some ⟨g,0,none⟩,cols,false,oj left cols⟩,z.au,z.b9]) (λb=>b=true→eM left cols<cols) ?_ ?_;refine al ?_;refine aW 39 rfl (λaH=>?_) (λaH=>?_);have Zf:=aX aH
 refine aK ?_;refine dr _ ?_ (ip rfl rfl rfl rfl rfl rfl) (λ_ h=>h);exact λ_=>by omega
 have Zf:=bd aH
 refine ay ?_;refine dr _ ?_ (ip rfl rfl rfl rfl rfl rfl) (λ_ h=>h);exact λh=>Bool.noConfusion h
 rintro Zv B;refine ar ?_;refine hL (λ_:List bh=>[(1,.int .i64 (cols:Int)),(5,.slice (if lc=eM left cols then i else i.map (λx=>x.add (eM left cols*8))) (d - eM left cols) (lc - eM left cols)),(6,z.val),(8,.slice (some ⟨g,0,none⟩) cols cols)]) (λX=>af f [] [bS.aF ⟨some ⟨g,0,none⟩,cols,false,X⟩,z.au,z.b9]) (λX=>X.length=cols∧gP X) ?_ ?_;refine b1 rfl (λZg=>?_) (λZg=>?_);refine ah ?_;refine bC (q:=eM left cols) dv rfl rfl rfl rfl rfl (by have:=B bv;omega) ?_;refine ar ?_;refine k4 (o:=eM left cols*8+2) bN rfl rfl cA (by simp[Addr.add_lit]) rfl (by have:=B bv;rw[bK.dI,m];show _<_*8;omega) ?_;refine ar ?_;exact dr ((oj left cols).set (eM left cols) rg) ⟨by rw[gc,m],YQ J _⟩ (cj rfl rfl rfl rfl) (λ_ h=>by rw[YR (B bv)] at h;simp only[bS.aF,dN,bS.val,gc] at h ⊢;exact h);refine ar ?_;exact dr (oj left cols) ⟨m,J⟩ bR (λ_ h=>h);rintro X ⟨N,Zh⟩;refine aK ?_;refine dy (E:=cl) (a:=⟨some ⟨g,0,none⟩,cols,decide ((z.l.length:Int)>0),X⟩) dK rfl rfl rfl rfl (by show [Value.slice _ cols cols,_]=[Value.slice _ X.length cols,_];rw[N]) (λZw _ _=>?_);refine eC (E:=cl) dK rfl rfl rfl bj (λ_ _=>ew) b4 b4 (λO P=>?_);refine ah ?_;refine bi ⟨⟨O,P,z.l++[⟨some ⟨g,0,none⟩,cols,decide ((z.l.length:Int)>0),X⟩]⟩,_,_,_,AJ left cols⟩ ⟨s.snoc ⟨N,Zh⟩,M,λc Zi=>u c (lN Zi),λh=>by simp at h,?_⟩ ?_ (em rfl rfl rfl) (λ_ h=>(af.yq (l:=z.l) (g:=⟨some ⟨g,0,none⟩,cols,decide ((z.l.length:Int)>0),X⟩) (h.ax (l:=[z.b9,bS.aF ⟨some ⟨g,0,none⟩,cols,decide ((z.l.length:Int)>0),X⟩,au 144 cl O P (z.l++[⟨some ⟨g,0,none⟩,cols,decide ((z.l.length:Int)>0),X⟩])]) ae)).ax ae);dsimp only;rw[b6,jY,K];exact Zd
 dsimp only;rw[b6,jY,ag aa,K];exact Ze
 refine bH ?_;intro Zx Zj;exact aP.bQ z ⟨s,by have: ¬(z.l.length=0∨0<d):=λh=>Bool.noConfusion ((I.2 h).symm.trans y);omega,aa⟩ rfl (Zj.zj Y.ext av)
end Go.Proofs.YtlgnfdodnhokjaaGreatDoor.Mq
namespace Go.Proofs.YtlgnfdodnhokjaaGreatDoor.Mq
open Go Go.RowKit Go.Proofs
structure Lp where
 A:Option Addr
 n:Nat
 c:Nat
 lo:Nat
 hi:Nat
abbrev qE {α:Type} (E:bA α) (L:List α) (x:Lp):Chunk:=rz x.lo x.hi (λw=>Rd E w (λk=>x.lo≤k∧k<x.hi) x.A x.n x.c L) (λ_ _ b h=>Rd.loc h (λk a=>b k a.1 a.2))
theorem il.fw {α:Type} {E:bA α} (f:0<E.sz) {w w':World} {L:List α} {e:Ending} (h:il E w L e w'):aP (λx:Lp=> .slice x.A x.n x.c) [] (λx=>[qE E L x]) (λx=>x.n=L.length) w e w':=by
 obtain⟨A,n,c,rfl,g,a⟩:=h;refine⟨⟨A,n,c,w.heap.size,w'.heap.size⟩,a.len.symm,rfl,g,?_,?_,?_⟩;simp only[aB,jX,r5,eu];exact yk _ _ _ _;intro c b;rw[eb] at b
 subst b;exact⟨λ_=>bW _,a.hI f⟩;intro k d i;simp only[aB,jX,r5,eu] at d
 have:w.heap.size≤k:=(ot.1 d).1
 omega
theorem uf {α:Type} {E:bA α} {P:Program} {n:Nat} {ops:Array Oper} {Q:cq} {rest:List Oper} {l:Fr} {ty:TypeId} {pos:String} {a7:Array Edge} {b:World} {S:List Nat} {cs cs':List Chunk} {x y:Operand} {t e g q c:Nat} {z:List Value} {A:Option Addr} {L:List α} {a:α}
 (i:cD P t E.sz z) (j:ba l x=some (.pointer (some ((⟨g,0,none⟩ :Addr).add (q*E.sz))))) (k:ba l y=some (.agg (E.enc a).toArray)) (o:A=some ⟨g,0,none⟩) (d:q<L.length) (p:bn cs (au e E A c L) (au e E A c (L.set q a)) cs')
 (h:az P n ops Q rest l (af b S cs')):az P n ops Q (⟨none,.store t x y,ty,pos,a7,none⟩::rest) l (af b S cs):=by
 subst o;refine mI (e:=e) (sz:=E.sz) (m:=L.length) (c:=c) (xs:=E.all L) i j k ?_ (by rw[Addr.add_lit,dE]) (E.len a) (E.jc a) ?_ h;rw[bA.je E a d];have f:bn cs (own e E.sz (.slice (some ⟨g,0,none⟩) L.length c) L.length (E.all L)) (own e E.sz (.slice (some ⟨g,0,none⟩) (L.set q a).length c) (L.set q a).length (E.all (L.set q a))) cs':=p
 rw[gc] at f
 exact f;rw[E.len,E.dI];have:=k1 E.sz d
 rw[oy] at this
 exact this
theorem YU (rows:List bG) (off:Int) (f:1≤rows.length):0≤(j1 rows off).row∧(j1 rows off).row<(rows.length:Int)∧0≤(j1 rows off).cM:=by
 have d:=Gt rows (max 0 off)
 obtain⟨g,b,h⟩:=d;unfold j1;rw[ag aa];split
 rename_i e;have i:=xz (rows:=rows) (j:=rows.length - 1) (k:=rows.length) aa
 have a:=b (rows.length - 1) aa
 rw[show rows.length - 1+1=rows.length by omega] at a
 dsimp only;omega
 rename_i e;dsimp only;refine⟨aa,aa,?_⟩;rcases gw (oU rows (max 0 off)) with c | c
 rw[c];simp[fu,cellsOf];omega
 have a:=b (oU rows (max 0 off) - 1) aa
 rw[show oU rows (max 0 off) - 1+1=oU rows (max 0 off) by omega] at a
 omega
theorem YV {rows:List bG} (h: ∀r∈rows,gP r.1):gP (rf rows):=λc a=>by
 unfold rf AF at a
 refine Lo (λd ak=>?_) c (iE a);obtain⟨ak,_⟩:=List.mem_filter.1 ak;obtain⟨r,b,ak⟩:=List.mem_flatMap.1 ak;exact h r b d ak
abbrev Good (q:List aY) (r:Nat):Prop:= ∃p,q[0]? = some p∧0≤p.row∧p.row<(r:Int)∧0≤p.cM
theorem Good.mono {q:List aY} {r s:Nat} (h:Good q r) (d:r≤s):Good q s:=by
 obtain⟨p,a,b,e,c⟩:=h;exact⟨p,a,b,aa,c⟩
theorem Good.set {q:List aY} {r j:Nat} {p:aY} (h:Good q r) (c:1≤j):Good (q.set j p) r:=by
 obtain⟨b_,a,b⟩:=h;exact⟨b_,by rw[jA aa];exact a,b⟩
end Go.Proofs.YtlgnfdodnhokjaaGreatDoor.Mq
