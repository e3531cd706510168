/- part 35 of the proof -/
import Derived.Test.YtkeokgcdnfjaaaaGreatDoorQ34
import Derived.Shelf.Sort.Plain
import Derived.Shelf.Slices.In.SortNone
import Derived.Shelf.Slices.In.CompactI
import Derived.Lib.RowBridge
namespace Go.Proofs.YtkeokgcdnfjaaaaGreatDoor.Mq
open Go Go.RowKit Go.Proofs Tryz
abbrev eC.enc (b:eC):List Value:=[.int .u64 b.id,.int .i64 b.phase,.int .i64 b.start.row,.int .i64 b.start.dm,.int .i64 b.input.row,.int .i64 b.input.dm,.int .i64 b.output.row,.int .i64 b.output.dm,.int .i64 b.done.row,.int .i64 b.done.dm,.int .i64 b.stop.row,.int .i64 b.stop.dm,.int .i64 b.code,.bool b.has,.bool b.cut,.string (bs b.dir),.string (bs b.line)]
def hp:bA eC:=⟨eC.enc,17,λ_=>rfl,λ_=>by repeat (first | exact aI.nil | refine aI.cons rfl ?_)⟩
structure rA where
 A:Option Addr
 c:Nat
 l:List eC
abbrev rA.val (r:rA):Value:= .slice r.A r.l.length r.c
abbrev rA.au (r:rA):Chunk:=Mq.au 42 hp r.A r.c r.l
abbrev CP (a b c d:bl):List Value:=[.int .i64 a.row,.int .i64 a.dm,.int .i64 b.row,.int .i64 b.dm,.int .i64 c.row,.int .i64 c.dm,.int .i64 d.row,.int .i64 d.dm]
theorem WE (e:bc) (q:bl) (h:e.br≤4):dd (CP q q q q) 0 (cq.all (e.pl.take e.br))=CP (e.pl.getD 0 q) (e.pl.getD 1 q) (e.pl.getD 2 q) (e.pl.getD 3 q):=by
 obtain⟨g,code,has,cut,dir,line,id,b8,dN,gc,mO,br⟩:=e;match br,(show br≤4 from h) with
 | 0,_=>rfl
 | 1,_=>rfl
 | 2,_=>rfl
 | 3,_=>rfl
 | 4,_=>rfl
set_option maxHeartbeats 2000000 in
theorem JM (w:World) (e:bc) (d:e.an.pred w) (ai:e.br≤4) (q:bl):Calls prog 62 [ptr e.g,d9 q].toArray w (Pure (.agg (mc e.abs q).enc.toArray) w):=by
 have h:=lv e ai
 refine aW func62 ntmps62 ?_;refine ah ?_;intro p r s;refine aq ?_;intro t u v;refine aR ?_;intro i x y;refine aS ?_;refine bG [0,1] 2 [[(2,false,[]),(3,true,[])]] ?_;refine aL rfl (λc a=>(Jo (sz:=2) 4 underlying148 sizeOf40 rfl rfl (.inr ⟨rfl,rfl⟩) aa aG)) ?_;refine ah ?_;refine ao rfl wB rfl (λj l=>yD j e (l.dD d av) ai) ?_;refine ah ?_;refine Jp (E:=cq) (src:=e.pl) (g:=i) (o:=0) (xs:=CP q q q q) (te:=148) (F:=λk=>k=e.g) e.br aa dQ rfl rfl rfl cz (λw' m=>(JH d ai).ext m.ext av) (by show 0+4*2≤8;omega) ?_;refine ay ?_;rw[WE e q ai];refine bG [0,1,2,3,4,5,6,7,8,9,10,11,12,13,14,15,16,17,18,19,20,21,22,23,24,25,26,27,28,29,30,31,32,33,34,35,36,37,38,39,40,41,42] 1 [[(43,true,[])]] ?_;refine ah ?_;refine aL rfl (λc a=>(ba py rfl rfl (λf b=>by subst b;exact a.bV d (by (simp;done)) rfl) aG)) ?_;refine ah ?_;refine aL rfl (λc a=>(ba bM rfl rfl (λf b=>by subst b;exact a.bV d (by (simp;done)) rfl) aG)) ?_;refine aL rfl (λc a=>(dq (q:=0) underlying148 mv rfl rfl rfl a7 aa aG)) ?_;refine aq ?_;refine aL rfl (λc a=>(dq (q:=1) underlying148 mv rfl rfl rfl a7 aa aG)) ?_;refine aq ?_;refine aL rfl (λc a=>(dq (q:=2) underlying148 mv rfl rfl rfl a7 aa aG)) ?_;refine aq ?_;refine aL rfl (λc a=>(dq (q:=3) underlying148 mv rfl rfl rfl a7 aa aG)) ?_;refine al ?_;refine aL rfl (λc a=>(ba bM rfl rfl (λf b=>by subst b;exact a.bV d (by (simp;done)) rfl) aG)) ?_;refine aS ?_;refine aL rfl (λc a=>(ba px rfl rfl (λf b=>by subst b;exact a.bV d (by (simp;done)) rfl) aG)) ?_;refine aS ?_;refine aL rfl (λc a=>(ba px rfl rfl (λf b=>by subst b;exact a.bV d (by (simp;done)) rfl) aG)) ?_;refine aS ?_;refine aL rfl (λc a=>(ba m8 rfl rfl (λf b=>by subst b;exact a.bV d (by (simp;done)) rfl) aG)) ?_;refine aS ?_;refine aL rfl (λc a=>(ba m8 rfl rfl (λf b=>by subst b;exact a.bV d (by (simp;done)) rfl) aG)) ?_;refine aL rfl (λc a=>(ki (out:=[.int .u64 e.id,.int .i64 (e.br:Int),.int .i64 (e.pl.getD 0 q).row,.int .i64 (e.pl.getD 0 q).dm,.int .i64 (e.pl.getD 1 q).row,.int .i64 (e.pl.getD 1 q).dm,.int .i64 (e.pl.getD 2 q).row,.int .i64 (e.pl.getD 2 q).dm,.int .i64 (e.pl.getD 3 q).row,.int .i64 (e.pl.getD 3 q).dm,.int .i64 q.row,.int .i64 q.dm,.int .i64 e.code,.bool e.has,.bool e.cut,.string (bs e.dir),.string (bs e.line)]) wr rfl rfl (by simp[hx,putAt,dd,Value.cells]) aG)) ?_;refine ar ?_;refine eX gp rfl rfl eo a7 (aI.cons rfl (aI.cons rfl (aI.cons rfl (aI.cons rfl (aI.cons rfl (aI.cons rfl (aI.cons rfl (fY rfl rfl rfl rfl rfl rfl rfl rfl rfl rfl)))))))) (dT rfl) ?_;refine al ?_;intro z n;exact⟨by simp only[mc,bc.abs,h];rfl,n.ext⟩
theorem JN (q:bl) (l:List ej): (jI q l).length=l.length:=by
 have:=aX List.length (yB q l)
 rwa [cN,cN] at this
theorem JO (q:bl): ∀(l:List ej) (i:Nat) (e:ej),l[i]? = some e→(jI q l)[i]? = some (mc e (match l[i+1]? with | some d=>mb d | none=>q))
 | [],i,e,h=>by cases h
 | [a],0,e,h=>by cases h;rfl
 | [a],i+1,e,h=>by simp at h
 | a::b::l,0,e,h=>by cases h;rfl
 | a::b::l,i+1,e,h=>JO q (b::l) i e h
theorem WF {s:cL} {e f:bc} (b:s.l[0]? = some f) (d:s.l.getLast?=some e) (q:bl):ka s.abs q=gS (mb f.abs)::jI (hS q (gY e.abs)) (s.l.map bc.abs):=by
 obtain⟨g,A,c,l,most,ids,dir⟩:=s;cases l with
 | nil=>cases b
 | cons a l=>
  cases b
  have h: ((f::l).map bc.abs).getLastD f.abs=e.abs:=by
   rw[List.getLastD_eq_getLast?,List.getLast?_map,d];rfl
  show gS (mb f.abs)::jI (hS q (gY (((f::l).map bc.abs).getLastD f.abs))) ((f::l).map bc.abs)=_
  rw[h]
set_option maxHeartbeats 1000000 in
theorem JP (w:World) (s:cL) (n:s.an.pred w) (ai: (ek s.A s.c s.l).pred w) (y: (eQ s.l).pred w) (p:gl s.l) (Zl:s.l.length≤10000) (q:bl):Calls prog 29 [ptr s.g,d9 q].toArray w
 (aP (λz:rA=>z.val) [] (λz=>[z.au]) (λz=>z.l=ka s.abs q) w):=by
 have W:=yx ai
 refine aW func29 ntmps29 ?_;refine ah ?_;intro O Zm Zn;refine aC ?_;refine ao rfl Mj rfl (λa b=>V5 a s (b.dD n av)) ?_;refine ah ?_;refine aj (λP=>?_) (λP=>?_);have X:s.l=[]:=iR aa
 refine al ?_;refine ki (out:=eC.enc (gS q)) wr rfl rfl (by simp[hx,putAt,dd,Value.cells,gS];rfl) ?_;refine dx (E:=hp) (gS q) kl rfl rfl rfl rfl rfl (λZo Zp Zq=>?_);refine al ?_;intro Y D;exact aP.bP ⟨_,_,[gS q]⟩ (by unfold ka;rw[show s.abs.blocks=s.l.map bc.abs from rfl,X];rfl) rfl (D.aw ae);obtain⟨Z,o,B⟩:=W.2.2 aa;obtain⟨f,F⟩ : ∃f,s.l[0]? = some f:=⟨_,bE aa⟩;obtain⟨e,G⟩ : ∃e,s.l.getLast?=some e:=⟨_,v_ (λZa=>P (by rw[Za];rfl))⟩;have Q:=t_ G
 have R:=c8 F
 have H: (ek (some ⟨Z,o,none⟩) s.c s.l).pred w:=B▸ai
 have Zb:=me y R
 have Zc:=vI f (p f R)
 have I:=WF F G q
 obtain⟨T,S⟩ : ∃T,T=hS q (gY e.abs):=⟨_,rfl⟩;rw[←S] at I
 rw[Zc] at I
 refine ah ?_;refine bG [0,1] 4 [[(2,false,[]),(3,false,[]),(4,false,[]),(5,true,[])]] ?_;refine aS ?_;refine ao rfl zv rfl (λa b=>(by have h:=CE a s (b.dD n av) (b.dD ai av);rw[G] at h;exact h)) ?_;refine ah ?_;refine ao rfl D9 rfl (λa b=>Jw a e (b.dD (me y Q) av) (p e Q)) ?_;refine ah ?_;refine ao rfl D8 rfl (λa b=>(by have h:=Jh a q (gY e.abs);rw[←S] at h;exact h)) ?_;refine bY (λ_=>True) (λ_ h=> .inr ⟨.inr ⟨.inr h,dj⟩,dj⟩) (λ_ h=>aU) ?_;refine bw ?_;refine ba mw rfl rfl (λJ m=>m.bV n (by (simp;done)) rfl) ?_;refine bD (q:=0) kZ rfl rfl rfl B rfl aa ?_;refine ba (v:=ptr f.g) m9 rfl rfl (λC k=>k.ct (nW H F) av) ?_;refine ar ?_;refine dq (q:=0) underlying148 mv rfl rfl rfl a7 aa ?_;refine cw (vs:=f.b8.enc) em rfl rfl rfl (λC k j u K=>k.jy (sz:=2) Zb av rfl j u K) ?_;refine aq ?_;intro Zr Zs Zt;refine aJ ?_;refine ki (out:=eC.enc (gS f.b8)) wr rfl rfl (by simp[hx,putAt,dd,Value.cells,gS];rfl) ?_;refine dx (E:=hp) (gS f.b8) kl rfl rfl rfl rfl rfl (λZu Zv Zw=>?_);refine aJ ?_;refine ba mw rfl rfl (λJ m=>m.bV n (by (simp;done)) rfl) ?_;refine ay ?_;refine b3 (ι:=Nat × rA) (λt=>[(0,ptr s.g),(3,ptr O),(6,t.2.val),(43,.slice s.A s.l.length s.c),(44,.int .i64 (s.l.length:Int)),(45,.int .i64 (t.1 :Int))]) (λt=>af w [] [aD O T.enc 40,t.2.au]) (λt=>t.1≤s.l.length∧t.2.l=gS f.b8::(jI T (s.l.map bc.abs)).take t.1) (λt=>s.l.length - t.1) ?_ ?_;exact λw' Zd=>⟨(0,⟨_,_,[gS f.b8]⟩),⟨bN _,rfl⟩,(hg rfl rfl rfl rfl rfl rfl),Zd.aw ae⟩
 rintro⟨i,z⟩ ⟨hi,r⟩;dsimp only at hi r ⊢
 have Zx:z.l.length=i+1:=by rw[r,eK,dn,JN,cN];omega
 refine al ?_;refine aj (λZe=>?_) (λZe=>?_);obtain⟨d,ak⟩ : ∃d,s.l[i]? = some d:=⟨_,bE aa⟩;have L:=c8 ak
 have U:=me y L
 have x:=JO T (s.l.map bc.abs) i d.abs (by rw[eJ,ak];rfl)
 rw[eJ] at x
 refine aC ?_;refine bD (q:=i) kZ rfl rfl rfl B rfl aa ?_;refine ba (v:=ptr d.g) m9 rfl rfl (λC k=>k.ct (nW H ak) av) ?_;refine aK ?_;intro Zy Zz ZA;refine bo ?_;refine ba mw rfl rfl (λJ m=>m.bV n (by (simp;done)) rfl) ?_;refine aS ?_;refine aj (λZf=>?_) (λZf=>?_);obtain⟨d2,M⟩ : ∃d2,s.l[i+1]? = some d2:=⟨_,bE aa⟩;have V:=c8 M
 have Zg:=me y V
 have Zh:=vI d2 (p d2 V)
 rw[M] at x
 have N: (jI T (s.l.map bc.abs)).take (i+1)=(jI T (s.l.map bc.abs)).take i++[mc d.abs d2.b8]:=by
  rw[fU,x,←Zh];rfl
 refine aS ?_;refine ba mw rfl rfl (λJ m=>m.bV n (by (simp;done)) rfl) ?_;refine ar ?_;refine bD (q:=i+1) kZ rfl rfl rfl B rfl aa ?_;refine ba (v:=ptr d2.g) m9 rfl rfl (λC k=>k.ct (nW H M) av) ?_;refine ar ?_;refine dq (q:=0) underlying148 mv rfl rfl rfl a7 aa ?_;refine cw (vs:=d2.b8.enc) em rfl rfl rfl (λC k j u K=>k.jy (sz:=2) Zg av rfl j u K) ?_;refine aC ?_;refine ao rfl D_ rfl (λa b=>JM a d (b.dD U av) (p d L).2 d2.b8) ?_;refine dx (E:=hp) (mc d.abs d2.b8) kl rfl rfl rfl rfl rfl (λZi Zj Zk=>?_);refine er (E:=hp) kl rfl rfl rfl bi (λ_ _=>k6) b4 b4 (λZB ZC=>?_);refine aK ?_;exact bg (i+1,⟨_,_,z.l++[mc d.abs d2.b8]⟩) ⟨aa,by dsimp only;rw[N,r];rfl⟩ bm (hg rfl rfl rfl rfl rfl rfl) (λ_ h=>h.aw ae);have N: (jI T (s.l.map bc.abs)).take (i+1)=(jI T (s.l.map bc.abs)).take i++[mc d.abs T]:=by
  rw[kg (show s.l.length≤i+1 by omega)] at x
  rw[fU,x];rfl
 refine al ?_;refine ao rfl D_ rfl (λa b=>JM a d (b.dD U av) (p d L).2 T) ?_;refine dx (E:=hp) (mc d.abs T) kl rfl rfl rfl rfl rfl (λZi Zj Zk=>?_);refine er (E:=hp) kl rfl rfl rfl bi (λ_ _=>k6) b4 b4 (λZD ZE=>?_);refine aK ?_;exact bg (i+1,⟨_,_,z.l++[mc d.abs T]⟩) ⟨aa,by dsimp only;rw[N,r];rfl⟩ bm (hg rfl rfl rfl rfl rfl rfl) (λ_ h=>h.aw ae);refine bH ?_;intro Y D;exact aN z (by rw[r,I,eu (by rw[JN,cN];omega)]) D
theorem WG {xs vs:List Value} (h:vs.length=xs.length):dd xs 0 vs=vs:=by
 rw[iY 0 aa,h];simp
theorem bn.whole {cs cs':List Chunk} {g:Nat} {xs vs:List Value} {t:TypeId} (h:bn cs (aD g xs t) (aD g vs t) cs') (a:vs.length=xs.length):bn cs (aD g xs t) (aD g (dd xs 0 vs) t) cs':=by
 rw[WG a];exact h
abbrev rB:eC:=⟨0,0,⟨0,0⟩,⟨0,0⟩,⟨0,0⟩,⟨0,0⟩,⟨0,0⟩,0,false,false,[],[]⟩
def rC (r:Option eC):Value:=match r with
 | some b=> .tuple #[.agg b.enc.toArray,.bool true]
 | none=> .tuple #[.agg rB.enc.toArray,.bool false]
set_option maxHeartbeats 1000000 in
theorem WH (w:World) (s:cL) (x:s.an.pred w) (ai: (ek s.A s.c s.l).pred w) (y: (eQ s.l).pred w) (B:gl s.l) (C:s.l.length≤10000) (id:Int) (q:bl):Calls prog 76 [ptr s.g,.int .u64 id,d9 q].toArray w
 (Pure (rC (kb s.abs id q)) w):=by
 have p:=Jt (s:=s.abs) q
 rw[show s.abs.blocks=s.l.map bc.abs from rfl,cN] at p
 unfold kb;obtain⟨L,r⟩ : ∃L,L=ka s.abs q:=⟨_,rfl⟩;rw[←r] at p ⊢
 refine aW func76 ntmps76 ?_;refine ah ?_;intro O P Q;refine aq ?_;intro t R S;refine aK ?_;refine aZ (l0:=[]) aA.nil rfl D0 rfl (λD a=>JP D s (a.dD x av) (a.dD ai av) (a.dD y av) B C q) (λz d=>?_);refine ay ?_;rw[←r] at d
 refine b3 (ι:=Nat) (λi=>[(1,.int .u64 id),(6,ptr t),(12,z.val),(13,.int .i64 (z.l.length:Int)),(14,.int .i64 (i:Int))]) (λ_=>af w [] [aD t (eC.enc rB) 42,z.au]) (λi=>i≤z.l.length∧L.find? (λb=>decide (b.id=id))=(L.drop i).find? (λb=>decide (b.id=id))) (λi=>z.l.length - i) ?_ ?_;exact λw' F=>⟨0,⟨bN _,rfl⟩,(ec rfl rfl rfl rfl rfl),F.aw ae⟩
 rintro i ⟨hi,G⟩;rw[G];have T:z.l.length=L.length:=by rw[d]
 refine al ?_;refine aj (λH=>?_) (λH=>?_);obtain⟨v,e⟩ : ∃v,z.l[i]? = some v:=⟨_,bE aa⟩;have ak:L.drop i=v::L.drop (i+1):=by
  rw[d] at e
  obtain⟨I,J⟩:=cU.1 e;rw[kR I,J]
 refine al ?_;refine iL (E:=hp) bF kl rfl rfl rfl a7 aa (λU K=>?_);refine cw (vs:=v.enc) gp rfl rfl rfl (λM f j u k=>f.gx (E:=hp) bF K e j u k) ?_;refine aq ?_;intro V W X;refine eX (vs:=v.enc) gp rfl rfl (bn.whole cz a7) rfl (aI.cons rfl (aI.cons rfl (aI.cons rfl (aI.cons rfl (aI.cons rfl (aI.cons rfl (aI.cons rfl (fY rfl rfl rfl rfl rfl rfl rfl rfl rfl rfl)))))))) (by exact dT rfl) ?_;refine aR ?_;refine aj (λm=>?_) (λm=>?_);refine ar ?_;refine cw (vs:=v.enc) gp rfl rfl rfl (λM f j u k=>f.kY (sz:=17) (o:=0) (xs:=v.enc) aQ rfl j u k) ?_;refine eX (vs:=v.enc) gp rfl rfl (bn.whole eo a7) rfl (aI.cons rfl (aI.cons rfl (aI.cons rfl (aI.cons rfl (aI.cons rfl (aI.cons rfl (aI.cons rfl (fY rfl rfl rfl rfl rfl rfl rfl rfl rfl rfl)))))))) (by exact dT rfl) ?_;refine aJ ?_;refine h_ results76 (cx.eR gp rfl bF rfl rfl) (cx.tmp rfl) (λN n=>?_);exact⟨by rw[ak,List.find?_cons_of_pos (by exact b1 m)];rfl,n.ext⟩;refine aC ?_;exact bg (i+1) ⟨aa,by rw[ak,List.find?_cons_of_neg (by rw[cm m];decide)]⟩ aa bO (λ_ h=>h.aw ae);refine aC ?_;refine ki (out:=eC.enc rB) wr rfl rfl rfl ?_;refine eX (vs:=eC.enc rB) gp rfl rfl (bn.whole cz a7) rfl (aI.cons rfl (aI.cons rfl (aI.cons rfl (aI.cons rfl (aI.cons rfl (aI.cons rfl (aI.cons rfl (fY rfl rfl rfl rfl rfl rfl rfl rfl rfl rfl)))))))) (by exact dT rfl) ?_;refine aS ?_;refine h_ results76 (cx.eR gp rfl aQ rfl rfl) (cx.tmp rfl) (λN n=>?_);exact⟨by rw[n0 (l:=L) aa];rfl,n.ext⟩
end Go.Proofs.YtkeokgcdnfjaaaaGreatDoor.Mq
namespace Go.Proofs.YtkeokgcdnfjaaaaGreatDoor.Mq
open Go Go.RowKit Go.Proofs
structure gC where
 a:Int
 b:Int
 id:Int
structure gD where
 row:Int
 id:Int
 hid:Int
abbrev gC.enc (f:gC):List Value:=[.int .i64 f.a,.int .i64 f.b,.int .u64 f.id]
abbrev gD.enc (f:gD):List Value:=[.int .i64 f.row,.int .u64 f.id,.int .i64 f.hid]
def mf:bA gC:=⟨gC.enc,3,λ_=>rfl,λ_=>aI.cons rfl (aI.cons rfl (aI.cons rfl aI.nil))⟩
def kO:bA gD:=⟨gD.enc,3,λ_=>rfl,λ_=>aI.cons rfl (aI.cons rfl (aI.cons rfl aI.nil))⟩
def fw (rows:Int):Int→List gC→Bool
 | _,[]=>true
 | e,f::l=>if f.a<e∨f.b≤f.a∨rows<f.b then false else fw rows f.b l
def hT (rows:Int):Int→List gC→List gC
 | _,[]=>[]
 | e,f::l=>
  if max 0 f.a<min f.b rows∧e≤max 0 f.a then ⟨max 0 f.a,min f.b rows,f.id⟩::hT rows (min f.b rows) l else hT rows e l
theorem CQ (rows:Int): ∀(l:List gC) (e:Int),fw rows e (hT rows e l)=true
 | [],_=>rfl
 | f::l,e=>by
  unfold hT;split
  rename_i h;unfold fw;rw[ag bm];exact CQ rows l _;exact CQ rows l e
theorem yF (rows:Int): ∀(l:List gC) (e:Int),∀g∈hT rows e l,∃f∈l,g.id=f.id∧g.a=max 0 f.a∧g.b=min f.b rows
 | [],_,g,h=>by simp[hT] at h
 | f::l,e,g,h=>by
  unfold hT at h
  split at h
  rcases eD.1 h with rfl | h
  exact⟨f,by simp,rfl,rfl,rfl⟩;obtain⟨x,c,d⟩:=yF rows l _ g h;exact⟨x,by simp[c],d⟩;obtain⟨x,c,d⟩:=yF rows l _ g h;exact⟨x,by simp[c],d⟩
def kd (a:Int):Nat→List gD
 | 0=>[]
 | n+1=>kd a n++[⟨a+n,0,0⟩]
theorem vO (a:Int): ∀n,(kd a n).length=n
 | 0=>rfl
 | n+1=>by simp[kd,vO a n]
def kP (rows:Int):Int→List gC→List gD
 | r,[]=>kd r (rows - r).toNat
 | r,f::l=>kd r (f.a - r).toNat++⟨f.a,f.id,f.b - f.a⟩::kP rows f.b l
def ip:Int→List gD→Int→Prop
 | a,[],b=>a=b
 | a,x::l,b=>x.row=a∧(x.id=0↔x.hid=0)∧0≤x.hid∧ip (a+max 1 x.hid) l b
theorem CR: ∀(l r:List gD) (a b c:Int),ip a l b→ip b r c→ip a (l++r) c
 | [],r,a,b,c,h,k=>by unfold ip at h;subst h;exact k
 | x::l,r,a,b,c,h,k=>by
  obtain⟨d,e,f,g⟩:=h;exact⟨d,e,f,CR l r _ b c g k⟩
theorem CS (a:Int): ∀n:Nat,ip a (kd a n) (a+n)
 | 0=>by simp[kd,ip]
 | n+1=>by
  refine CR _ _ _ _ _ (CS a n) ?_;refine⟨rfl,by simp,by simp,?_⟩;simp only[ip];omega
theorem JQ (rows:Int): ∀(l:List gC) (r:Int),r≤rows→fw rows r l=true→(∀f∈l,f.id≠0)→ip r (kP rows r l) rows
 | [],r,e,_,_=>by
  have:=CS r (rows - r).toNat
  rw[show r+((rows - r).toNat:Int)=rows by omega] at this
  exact this
 | f::l,r,e,c,hid=>by
  unfold fw at c
  split at c
  cases c
  rename_i h;have d:=CS r (f.a - r).toNat
  rw[show r+((f.a - r).toNat:Int)=f.a by omega] at d
  refine CR _ _ _ _ _ d ⟨rfl,?_,by dsimp only;omega,?_⟩;have:=hid f av
  dsimp only;omega
  dsimp only;rw[show f.a+max 1 (f.b - f.a)=f.b by omega];exact JQ rows l f.b aa c (λg i=>hid g (by simp[i]))
theorem JR (rows:Int): ∀(l:List gC) (r:Int),∀x∈kP rows r l,x.id=0∨ ∃f∈l,x.row=f.a∧x.id=f.id∧x.hid=f.b - f.a
 | [],r,x,c=>by
  refine .inl ?_;unfold kP at c
  generalize (rows - r).toNat=n at c
  induction n with
  | zero=>simp[kd] at c
  | succ n d=>
   rcases cX.1 c with h | h
   exact d h;simp at h;subst h;rfl
 | f::l,r,x,c=>by
  unfold kP at c
  rcases cX.1 c with h | h
  refine .inl ?_;generalize (f.a - r).toNat=n at h
  induction n with
  | zero=>simp[kd] at h
  | succ n d=>
   rcases cX.1 h with h | h
   exact d h;simp at h;subst h;rfl
  rcases eD.1 h with rfl | h
  exact .inr ⟨f,by simp,rfl,rfl,rfl⟩;rcases JR rows l f.b x h with h | ⟨g,e,h⟩
  exact .inl h;exact .inr ⟨g,by simp[e],h⟩
theorem JS (rows:Int): ∀(l:List gC) (r:Int),r≤rows→fw rows r l=true→((kP rows r l).length:Int)≤rows - r
 | [],r,c,_=>by
  unfold kP;rw[vO];omega
 | f::l,r,c,a=>by
  unfold fw at a
  split at a
  cases a
  have:=JS rows l f.b aa a
  unfold kP;rw[b0,eK,vO];omega
end Go.Proofs.YtkeokgcdnfjaaaaGreatDoor.Mq
namespace Go.Proofs.YtkeokgcdnfjaaaaGreatDoor.Mq
open Go Go.RowKit Go.Proofs Tryz
structure nX where
 A:Option Addr
 c:Nat
 l:List gC
abbrev nX.val (r:nX):Value:= .slice r.A r.l.length r.c
abbrev nX.au (r:nX):Chunk:=Mq.au 141 mf r.A r.c r.l
structure lx where
 A:Option Addr
 c:Nat
 l:List gD
abbrev lx.val (r:lx):Value:= .slice r.A r.l.length r.c
abbrev lx.au (r:lx):Chunk:=Mq.au 36 kO r.A r.c r.l
abbrev JT (x:gD):Value:= .agg x.enc.toArray
abbrev tG (x:gD):Prop:=(0≤x.row∧x.row≤1000000)∧0≤x.hid∧x.hid≤1000000
abbrev vP (w:World):=ca (λb:Bool=> .bool b) (λ_=>True) w
theorem WI (w:World) (x:gD) (r:Int) (k:tG x):Calls prog 137 [JT x,.int .i64 r].toArray w (vP w):=by
 refine aW func137 ntmps137 ?_;refine ah ?_;intro l m n;refine bo ?_;refine aj (λf=>?_) (λf=>?_);refine bw ?_;intro b a;exact ca.of _ aU rfl a.ext;refine aK ?_;refine aV 15 rfl (λaH=>?_) (λaH=>?_);have g:=aY aH
 refine aK ?_;refine aV 20 rfl (λc=>?_) (λc=>?_);have h:=aY c
 refine aK ?_;refine aV 25 rfl (λd=>?_) (λd=>?_);have i:=aY d
 refine aR ?_;refine aV 31 rfl (λe=>?_) (λe=>?_);have j:=aY e
 refine hh ?_;intro b a;exact ca.of _ aU rfl a.ext;have j:=a8 e
 refine bH ?_;intro b a;exact ca.of _ aU rfl a.ext;have i:=a8 d
 refine eG ?_;intro b a;exact ca.of _ aU rfl a.ext;have h:=a8 c
 refine jc ?_;intro b a;exact ca.of _ aU rfl a.ext;have g:=a8 aH
 refine w7 ?_;intro b a;exact ca.of _ aU rfl a.ext
theorem WJ (w:World) (x:gD) (g:Nat) (r:Int) (a:tG x) (c: (aD g [.int .i64 r] 3).pred w):Calls prog 136 ([]++[JT x]++[ptr g]).toArray w (vP w):=by
 refine aW func136 ntmps136 ?_;refine ah ?_;intro h i j;refine al ?_;refine ba bM rfl rfl (λk d=>d.bV c (by (simp;done)) rfl) ?_;refine aZ (l0:=[]) aA.nil rfl MP rfl (λe _=>WI e x r a) (λb _=>?_);refine ay ?_;intro l f;exact ca.of b aU rfl f.ext
theorem WK (w:World) (F:Nat→Prop) (A:Option Addr) (n c:Nat) (L:List gD) (d:Rd kO w F A n c L) (f: ∀x∈L,tG x) (G:n≤1000000) (g:Nat) (r:Int) (l: (aD g [.int .i64 r] 3).pred w):
 Calls prog 135 [.slice A n c,.func (.func 136) #[] #[ptr g]].toArray w (ca (λk:Int=> .int .i64 k) (λk=> -1≤k∧k<n) w):=by
 have H:=d.len
 refine aW func135 ntmps135 ?_;refine b5 ?_;refine b3 (ι:=Nat) (λi=>[(0,.slice A n c),(1,.func (.func 136) #[] #[ptr g]),(6,.slice A n c),(7,.int .i64 (n:Int)),(8,.int .i64 (i:Int))]) (λ_=>af w [] []) (λi=>i≤n) (λi=>n - i) ?_ ?_;exact λw' m=>⟨0,bN _,(ec rfl rfl rfl rfl rfl),m⟩
 intro i hi;refine al ?_;refine aj (λo=>?_) (λo=>?_);obtain⟨v,e⟩ : ∃v,L[i]? = some v:=⟨_,bE aa⟩;obtain⟨bX,p,I,s⟩:=d.at_ e;have t:=f v (c8 e)
 refine cE ?_;refine bD (q:=i) om rfl rfl rfl p rfl aa ?_;refine cw (vs:=v.enc) DK rfl rfl rfl (λJ y j u z=>y.ct (s j u z) av) ?_;refine lI (l0:=[]) (first:=[]) (cap:=[ptr g]) aA.nil rfl rfl MO rfl (λB C=>WJ B v g r t (C.dD l av)) (λb _=>?_);refine ar ?_;refine b2 rfl (λD=>?_) (λD=>?_);refine bH ?_;intro E a;exact ca.of (i:Int) ⟨aa,aa⟩ rfl a.ext;refine aC ?_;exact bg (i+1) aa aa bO (λ_ h=>h);refine bw ?_;intro E a;exact ca.of (-1) ⟨aa,aa⟩ rfl a.ext
theorem WL (w:World) (F:Nat→Prop) (A:Option Addr) (n c:Nat) (L:List gD) (b:Rd kO w F A n c L) (d: ∀x∈L,tG x) (e:n≤1000000) (r:Int):
 Calls prog 89 [.slice A n c,.int .i64 r].toArray w (ca (λt:Int × Bool=> .tuple #[.int .i64 t.1,.bool t.2]) (λt=>0≤t.1∧t.1≤n) w):=by
 refine aW func89 ntmps89 ?_;refine ah ?_;intro f i j;refine aK ?_;refine aZ (l0:=[]) aA.nil rfl MN rfl (λg a=>WK g F A n c L (b.ext a.ext av) d e f r (a.has aQ)) (λk l=>?_);refine cE ?_;intro m h;exact ca.of (_,_) bm rfl h.ext
theorem WM (w:World) (F:Nat→Prop) (A:Option Addr) (n c:Nat) (L:List gD) (b:Rd kO w F A n c L) (i:n≤1000000) (top a:Int) (j: -10000000000000≤top∧top≤10000000000000) (k:0≤a∧a≤1000000):
 Calls prog 31 [.slice A n c,.int .i64 top,.int .i64 a].toArray w (aP (λt:lx × Int=> .tuple #[t.1.val,.int .i64 t.2]) [] (λt=>[t.1.au]) (λt=>(t.1.l.length:Int)=min (n:Int) a∧0≤t.2∧t.2+t.1.l.length≤n) w):=by
 have o:=b.len
 have r:=b.cap
 refine aW func31 ntmps31 ?_;obtain⟨p,ai⟩ : ∃p:Nat,max 0 (min top ((n:Int) - max 0 a))=(p:Int):=⟨(max 0 (min top ((n:Int) - max 0 a))).toNat,aa⟩;obtain⟨q,d⟩ : ∃q:Nat,min (n:Int) (max 0 (min top ((n:Int) - max 0 a))+min (max 0 a) (n:Int))=(q:Int):=⟨(min (n:Int) (max 0 (min top ((n:Int) - max 0 a))+min (max 0 a) (n:Int))).toNat,aa⟩;have s: ((L.take q).drop p).length=q - p:=by rw[fz,dn];omega
 refine O9 ?_;refine fh p q om rfl rfl (.inl ⟨_,_,rfl,rfl,ai⟩) (.inl ⟨_,_,rfl,rfl,d⟩) aa aa ?_;refine pq 36 3 ?_;refine pX (E:=kO) (src:=(L.take q).drop p) (F:=F) (m:=0) (xs:=[]) ((L.take q).drop p).length aa om rfl rfl rfl (λ_=>by exact cz) (λw' e=>(b.cut aa aa).ext e.ext av) (by simp only[maxLen];omega) aa (λf g=>?_);refine aC ?_;intro u h;exact aN (⟨f,g,(L.take q).drop p⟩,max 0 (min top ((n:Int) - max 0 a))) bm h
theorem WN (w:World) (F:Nat→Prop) (A:Option Addr) (n c:Nat) (L:List gC) (o:Rd mf w F A n c L) (J:n≤1000000) (rows:Int):
 Calls prog 54 [.int .i64 rows,.slice A n c].toArray w (Pure (.bool (fw rows 0 L)) w):=by
 have K:=o.len
 refine aW func54 ntmps54 ?_;refine eG ?_;refine b3 (ι:=Nat × Int) (λt=>[(0,.int .i64 rows),(5,.int .i64 t.2),(8,.slice A n c),(9,.int .i64 (n:Int)),(10,.int .i64 (t.1 :Int))]) (λ_=>af w [] []) (λt=>t.1≤n∧fw rows 0 L=fw rows t.2 (L.drop t.1)) (λt=>n - t.1) ?_ ?_;exact λw' s=>⟨(0,0),⟨bN _,rfl⟩,(ec rfl rfl rfl rfl rfl),s⟩
 rintro⟨i,e⟩ ⟨hi,p⟩;dsimp only at hi p ⊢
 rw[p];refine al ?_;refine aj (λx=>?_) (λx=>?_);obtain⟨⟨a,b,id⟩,r⟩ : ∃v,L[i]? = some v:=⟨_,bE aa⟩;obtain⟨bX,y,M,B⟩:=o.at_ r;have ak:L.drop i=⟨a,b,id⟩::L.drop (i+1):=by
  obtain⟨f,C⟩:=cU.1 r;rw[kR f,C]
 have D: ¬(a<e∨b≤a∨rows<b)→fw rows e (L.drop i)=fw rows b (L.drop (i+1)):=λh=>by rw[ak,fw,ag h]
 have g: (a<e∨b≤a∨rows<b)→false=fw rows e (L.drop i):=λh=>by rw[ak,fw,ax h]
 refine al ?_;refine bD (q:=i) oo rfl rfl rfl y rfl aa ?_;refine cw (vs:=[.int .i64 a,.int .i64 b,.int .u64 id]) zn rfl rfl rfl (λN f j u E=>f.ct (B j u E) av) ?_;refine aq ?_;intro O P Q;refine bo ?_;refine aV 18 rfl (λk=>?_) (λk=>?_);have G:=aY k
 refine w6 ?_;intro m d;exact⟨aX (λz=>Ending.returned (Value.bool z)) (g aa),d.ext⟩;have G:=a8 k
 refine bw ?_;refine aV 25 rfl (λaH=>?_) (λaH=>?_);have H:=aY aH
 refine gN ?_;intro m d;exact⟨aX (λz=>Ending.returned (Value.bool z)) (g aa),d.ext⟩;have H:=a8 aH
 refine bo ?_;refine aj (λI=>?_) (λI=>?_);refine bH ?_;intro m d;exact⟨aX (λz=>Ending.returned (Value.bool z)) (g aa),d.ext⟩;refine bH ?_;exact bg (i+1,b) ⟨aa,D aa⟩ bm bO (λ_ h=>h.aw aA.nil);refine bw ?_;intro m d;exact⟨by rw[n0 (l:=L) aa];rfl,d.ext⟩
theorem WO (w:World) (F:Nat→Prop) (A:Option Addr) (n c:Nat) (L:List gC) (k:Rd mf w F A n c L) (K:n≤1000000) (rows:Int):
 Calls prog 57 [.int .i64 rows,.slice A n c].toArray w (aP (λz:nX=>z.val) [] (λz=>[z.au]) (λz=>z.l=hT rows 0 L) w):=by
 have M:=k.len
 refine aW func57 ntmps57 ?_;refine nl ?_;refine cG (H':=af w [] [nX.au ⟨none,0,[]⟩]) ?_ (Sub.refl _) (λx p=>p.eO 141 mf);refine aq ?_;refine b3 (ι:=Nat × Int × nX) (λt=>[(0,.int .i64 rows),(5,t.2.2.val),(6,.int .i64 t.2.1),(9,.slice A n c),(10,.int .i64 (n:Int)),(11,.int .i64 (t.1 :Int))]) (λt=>af w [] [t.2.2.au]) (λt=>t.1≤n∧t.2.2.l.length≤t.1∧hT rows 0 L=t.2.2.l++hT rows t.2.1 (L.drop t.1)) (λt=>n - t.1) ?_ ?_;exact λw' r=>⟨(0,0,⟨none,0,[]⟩),⟨bN _,bN _,rfl⟩,(hg rfl rfl rfl rfl rfl rfl),r⟩
 rintro⟨i,e,z⟩ ⟨hi,s,d⟩;dsimp only at hi s d ⊢
 refine al ?_;refine aj (λy=>?_) (λy=>?_);obtain⟨⟨a,b,id⟩,m⟩ : ∃v,L[i]? = some v:=⟨_,bE aa⟩;obtain⟨bX,B,N,C⟩:=k.at_ m;have ak:L.drop i=⟨a,b,id⟩::L.drop (i+1):=by
  obtain⟨f,D⟩:=cU.1 m;rw[kR f,D]
 have o: ¬(max 0 a<min b rows∧e≤max 0 a)→hT rows 0 L=z.l++hT rows e (L.drop (i+1)):=λh=>by rw[d,ak,hT,ag h]
 have G: (max 0 a<min b rows∧e≤max 0 a)→hT rows 0 L=(z.l++[⟨max 0 a,min b rows,id⟩])++hT rows (min b rows) (L.drop (i+1)):=λh=>by rw[d,ak,hT,ax h];simp
 refine al ?_;refine bD (q:=i) oo rfl rfl rfl B rfl aa ?_;refine cw (vs:=[.int .i64 a,.int .i64 b,.int .u64 id]) zn rfl rfl rfl (λO f j u H=>f.ct (C j u H) av) ?_;refine aq ?_;intro P Q R;refine lJ ?_;refine aV 29 rfl (λg=>?_) (λg=>?_);have I:=aY g
 refine bo ?_;refine aj (λaH=>?_) (λaH=>?_);refine aS ?_;refine dx (E:=mf) ⟨_,_,_⟩ oo rfl rfl rfl rfl rfl (λS T U=>?_);refine er (E:=mf) oo rfl rfl rfl bi (λ_ _=>eo) b4 b4 (λV W=>?_);refine b5 ?_;exact bg (i+1,min b rows,⟨_,_,z.l++[⟨max 0 a,min b rows,id⟩]⟩) ⟨aa,by dsimp only;rw[b0,iS];omega,G aa⟩ bm (hg rfl rfl rfl rfl rfl rfl) (λ_ h=>h.aw ae);refine aC ?_;exact bg (i+1,e,z) ⟨aa,by dsimp only;omega,o aa⟩ bm bO (λ_ h=>h.aw ae);have I:=a8 g
 refine cE ?_;exact bg (i+1,e,z) ⟨aa,by dsimp only;omega,o aa⟩ bm bO (λ_ h=>h.aw ae);refine bH ?_;intro X J;exact aN z (by rw[d,n0 (l:=L) aa];simp[hT]) J
abbrev pe (a b:Nat) (z:lx) (r:Int):List Chunk:=[aD a [z.val] 32,aD b [.int .i64 r] 3,z.au]
theorem WP (a:Int) (n:Nat):kd a (n+1)=kd a n++[⟨a+n,0,0⟩]:=rfl
theorem JU (w:World) (a b:Nat) (z:lx) (r to:Int) (e:bb w (pe a b z r)) (s:0≤r) (u:to≤1000000) (v:z.l.length≤1000000):
 Calls prog 55 ([]++[Value.int .i64 to]++[ptr b,ptr a]).toArray w (aP (λ_:lx=> .tuple #[]) (pe a b z r) (λy=>pe a b y (max r to)) (λy=>y.l=z.l++kd r (to - r).toNat) w):=by
 refine bI func55 ntmps55 e ?_;refine aq ?_;refine b3 (ι:=Nat × lx) (λ_=>[(0,.int .i64 to),(1,ptr b),(2,ptr a)]) (λt=>af w (aB (pe a b z r)) (pe a b t.2 (r+t.1))) (λt=>(t.1=0∨r+t.1≤to)∧t.2.l=z.l++kd r t.1) (λt=>(to - r).toNat - t.1) ?_ ?_;exact λw' f=>⟨(0,z),⟨.inl rfl,by simp[kd]⟩,(dZ rfl rfl rfl),by rw[show r+((0 :Nat):Int)=r by omega];exact f⟩
 rintro⟨k,y⟩ ⟨g,c⟩;dsimp only at g c ⊢
 have x:y.l.length=z.l.length+k:=by rw[c,b0,vO]
 obtain⟨q,d⟩ : ∃q,q=r+(k:Int):=⟨_,rfl⟩;rw[←d];refine aK ?_;refine aj (λi=>?_) (λi=>?_);refine aK ?_;refine dx (E:=kO) ⟨_,_,_⟩ om rfl rfl rfl rfl rfl (λA B C=>?_);refine er (E:=kO) om rfl rfl rfl bi (λ_ _=>k6) b4 b4 (λj m=>?_);refine aJ ?_;refine bg (k+1,⟨j,m,y.l++[⟨q,0,0⟩]⟩) ⟨.inr bm,by dsimp only;rw[c,WP,e0,←d]⟩ bm (dZ rfl rfl rfl) (λ_ h=>?_);rw[show r+((k+1 :Nat):Int)=q+1 by omega];exact h.aw ae;refine ay ?_;intro D n;have o:max r to=q:=by omega
 have p: (to - r).toNat=k:=by omega
 refine aP.bP y (by rw[c,p]) rfl ?_;rw[o];exact n.aw ae
theorem WQ (rows r:Int) (f:gC) (l:List gC):kP rows r (f::l)=kd r (f.a - r).toNat++⟨f.a,f.id,f.b - f.a⟩::kP rows f.b l:=rfl
theorem WR (w:World) (F:Nat→Prop) (A:Option Addr) (n c:Nat) (L:List gC) (p:Rd mf w F A n c L) (G:n≤1000000) (rows:Int) (H:0≤rows∧rows≤200000) (C:fw rows 0 L=true):
 Calls prog 26 [.int .i64 rows,.slice A n c].toArray w (aP (λz:lx=> .tuple #[z.val,.int .i64 0]) [] (λz=>[z.au]) (λz=>z.l=kP rows 0 L) w):=by
 have W:=p.len
 refine aW func26 ntmps26 ?_;refine bw ?_;refine cA rfl rfl (cm aa) ?_;refine aq ?_;refine cA rfl rfl (cm aa) ?_;refine aq ?_;refine kj rfl rfl (cm aa) rfl ?_;refine aq ?_;refine cA rfl rfl (cm aa) ?_;refine aq ?_;refine cA rfl rfl (cm aa) ?_;refine aq ?_;refine cA rfl rfl (cm aa) ?_;refine ao rfl Mh rfl (λk m=>(by have h:=WN k F A n c L (p.ext m.ext av) G rows;rw[C] at h;exact h)) ?_;refine cA rfl rfl (cm aa) ?_;refine aq ?_;refine kj rfl rfl (cm aa) rfl ?_;refine aC ?_;refine r3 LC rfl (λd X Y=>?_);refine aS ?_;refine r3 bM rfl (λe Z Za=>?_);refine ef ?_;refine cG (H':=af w [] (pe d e ⟨none,0,[]⟩ 0)) ?_ (Sub.refl _) (λx I=>(I.eO 36 kO).aw ae);refine aq ?_;refine b3 (ι:=Nat × lx × Int) (λt=>[(0,.int .i64 rows),(6,ptr d),(7,ptr e),(8,.func (.func 55) #[] #[ptr e,ptr d]),(24,.slice A n c),(25,.int .i64 (n:Int)),(26,.int .i64 (t.1 :Int))]) (λt=>af w [] (pe d e t.2.1 t.2.2)) (λt=>t.1≤n∧(t.2.1.l.length:Int)≤t.2.2∧0≤t.2.2∧t.2.2≤rows∧fw rows t.2.2 (L.drop t.1)=true∧kP rows 0 L=t.2.1.l++kP rows t.2.2 (L.drop t.1)) (λt=>n - t.1) ?_ ?_;exact λw' J=>⟨(0,⟨none,0,[]⟩,0),⟨bN _,by simp,by simp,H.1,C,rfl⟩,(hE rfl rfl rfl rfl rfl rfl rfl),J⟩
 rintro⟨i,z,r⟩ ⟨hi,K,s,M,f,g⟩;dsimp only at hi K s M f g ⊢
 refine al ?_;refine aj (λN=>?_) (λN=>?_);obtain⟨⟨a,b,id⟩,D⟩ : ∃v,L[i]? = some v:=⟨_,bE aa⟩;obtain⟨bX,O,Zb,P⟩:=p.at_ D;have ak:L.drop i=⟨a,b,id⟩::L.drop (i+1):=by
  obtain⟨B,Q⟩:=cU.1 D;rw[kR B,Q]
 rw[ak,fw] at f
 rw[ak,WQ] at g
 dsimp only at f g
 have R: ¬(a<r∨b≤a∨rows<b):=λh=>by rw[ax h] at f;cases f
 rw[ag R] at f
 refine al ?_;refine bD (q:=i) oo rfl rfl rfl O rfl aa ?_;refine cw (vs:=[.int .i64 a,.int .i64 b,.int .u64 id]) zn rfl rfl rfl (λZc B j u S=>B.ct (P j u S) av) ?_;refine aq ?_;intro Zd Ze Zf;refine aK ?_;refine lI (l0:=pe d e z r) (first:=[]) (cap:=[ptr e,ptr d]) ae rfl rfl D7 rfl (λk m=>JU k d e z r a (m.bp ae) s aa aa) (λy o=>?_);have Zg:y.l.length=z.l.length+(a - r).toNat:=by rw[o,b0,vO]
 refine cE ?_;refine dx (E:=kO) ⟨_,_,_⟩ om rfl rfl rfl rfl rfl (λZh Zi Zj=>?_);refine er (E:=kO) om rfl rfl rfl bi (λ_ _=>k6) b4 b4 (λT U=>?_);refine b5 ?_;refine bg (i+1,⟨T,U,y.l++[⟨a,id,b - a⟩]⟩,b) ⟨aa,by dsimp only;rw[b0,iS];omega,by dsimp only;omega,by dsimp only;omega,f,by dsimp only;rw[g,o];simp⟩ bm (hE rfl rfl rfl rfl rfl rfl rfl) (λ_ h=>h.aw ae);rw[n0 (l:=L) aa] at g
 refine aJ ?_;refine lI (l0:=pe d e z r) (first:=[]) (cap:=[ptr e,ptr d]) ae rfl rfl D7 rfl (λk m=>JU k d e z r rows (m.bp ae) s aa aa) (λy o=>?_);refine bo ?_;intro Zk V;exact aN y (by rw[g,o];rfl) V
def WS:Shelf.Ren:=⟨λ| 125=>200 | 128=>289 | 129=>290 | 189=>138 | 215=>362 | 216=>286 | 257=>199 | 294=>280 | 295=>281 | 296=>282 | 297=>283 | 298=>284 | 299=>285 | 300=>287 | 301=>288 | 328=>357 | 329=>358 | 330=>359 | 331=>360 | 332=>361 | 343=>411 | n=>n,λ| 0=>0 | 3=>3 | 4=>4 | 5=>5 | 9=>9 | 28=>134 | 46=>258 | 51=>89 | 53=>34 | 131=>196 | 182=>348 | 183=>349 | 218=>388 | 222=>392 | 228=>422 | 229=>279 | n=>n,λn=>n⟩
theorem JV:Lays.n189 prog WS where
 mixed:=by kernel_rfl
 f125:=func200.trans (aX some ab)
 f128:=func289.trans (aX some ab)
 f129:=func290.trans (aX some ab)
 f189:=func138.trans (aX some ab)
 f215:=func362.trans (aX some ab)
 f216:=func286.trans (aX some ab)
 f257:=func199.trans (aX some ab)
 f294:=func280.trans (aX some ab)
 f295:=func281.trans (aX some ab)
 f296:=func282.trans (aX some ab)
 f297:=func283.trans (aX some ab)
 f298:=func284.trans (aX some ab)
 f299:=func285.trans (aX some ab)
 f300:=func287.trans (aX some ab)
 f301:=func288.trans (aX some ab)
 f328:=func357.trans (aX some ab)
 f329:=func358.trans (aX some ab)
 f330:=func359.trans (aX some ab)
 f331:=func360.trans (aX some ab)
 f332:=func361.trans (aX some ab)
 f343:=func411.trans (aX some ab)
 t0:=underlying0
 a0:=isAgg0
 z0:=sizeOf0
 v0:=zeroValue0
 t3:=underlying3
 a3:=isAgg3
 z3:=sizeOf3
 v3:=zeroValue3
 t4:=underlying4
 a4:=isAgg4
 z4:=sizeOf4
 v4:=zeroValue4
 t5:=underlying5
 a5:=isAgg5
 z5:=sizeOf5
 v5:=zeroValue5
 t9:=underlying9
 a9:=isAgg9
 z9:=sizeOf9
 v9:=zeroValue9
 t28:=underlying134
 a28:=isAgg134
 z28:=sizeOf134
 v28:=zeroValue134
 t46:=underlying258
 a46:=isAgg258
 z46:=sizeOf258
 v46:=zeroValue258
 t51:=underlying89
 a51:=isAgg89
 z51:=sizeOf89
 v51:=zeroValue89
 t53:=underlying34
 a53:=isAgg34
 z53:=sizeOf34
 v53:=zeroValue34
 t131:=underlying196
 a131:=isAgg196
 z131:=sizeOf196
 v131:=zeroValue196
 t182:=underlying348
 a182:=isAgg348
 z182:=sizeOf348
 v182:=zeroValue348
 t183:=underlying349
 a183:=isAgg349
 z183:=sizeOf349
 v183:=zeroValue349
 t218:=underlying388
 a218:=isAgg388
 z218:=sizeOf388
 v218:=zeroValue388
 t222:=underlying392
 a222:=isAgg392
 z222:=sizeOf392
 v222:=zeroValue392
 t228:=underlying422
 a228:=isAgg422
 z228:=sizeOf422
 v228:=zeroValue422
 t229:=underlying279
 a229:=isAgg279
 z229:=sizeOf279
 v229:=zeroValue279
def WT:Shelf.Ren:=⟨λ| 20=>139 | n=>n,λ| 0=>0 | 3=>3 | 4=>4 | 22=>134 | n=>n,λn=>n⟩
theorem JW:Lays2.n20 prog WT where
 mixed:=by kernel_rfl
 f20:=func139.trans (aX some ab)
 t0:=underlying0
 a0:=isAgg0
 z0:=sizeOf0
 v0:=zeroValue0
 t3:=underlying3
 a3:=isAgg3
 z3:=sizeOf3
 v3:=zeroValue3
 t4:=underlying4
 a4:=isAgg4
 z4:=sizeOf4
 v4:=zeroValue4
 t22:=underlying134
 a22:=isAgg134
 z22:=sizeOf134
 v22:=zeroValue134
 i3:=by kernel_rfl
structure gf where
 A:Option Addr
 c:Nat
 l:List Int
abbrev gf.val (r:gf):Value:= .slice r.A r.l.length r.c
abbrev gf.au (r:gf):Chunk:=Mq.au 3 bS r.A r.c r.l
theorem rD: ∀l:List Int,bS.all l=l.map (Value.int .i64)
 | []=>rfl
 | a::l=>by
  show [Value.int .i64 a]++bS.all l=_
  rw[rD l];rfl
theorem JX {w:World} {e g c:Nat} {L z:List Int} (h: (au e bS (some ⟨g,0,none⟩) c L).pred w) (t:z.length=L.length) (k:Nat) (os:Array Obj):
 (au e bS (some ⟨g,0,none⟩) c z).pred (Sort.grow (Sort.putRow (Value.int .i64) (Sort.ahead w k) g 0 z.toArray) os)∧Ext [g] w (Sort.grow (Sort.putRow (Value.int .i64) (Sort.ahead w k) g 0 z.toArray) os):=by
 obtain⟨u,j | ⟨v,cap,am,l,_,d,x,m,f,y⟩⟩:=(h:w.ownsRow 0 e 1 (.slice (some ⟨g,0,none⟩) L.length c) L.length (bS.all L));cases j.1
 injection l with a A n
 injection a with a
 injection a with a
 subst a;subst n
 have o:g<w.heap.size:=(lz.1 d).1
 refine⟨?_,rfl,rfl,rfl,by simp[Sort.grow,Sort.putRow,Sort.mapBlock],λb p r=>?_⟩;refine⟨by rw[bS.dH],.inr ⟨g,c,Sort.putCells (Value.int .i64) 0 z.toArray am,rfl,bN _,?_,aa,m,by rw[Sort.putCells,Array.size_mapIdx];exact f,?_⟩⟩;show ((w.heap.modify g _)++os)[g]? = _
 rw[tS (by simpa using o),qs,ax rfl,d];rfl
 rw[rD];apply ml
 intro i;rw[is,eJ];by_cases hi:i<z.length
 have B:am.size=c:=by rw[f];exact Nat.mul_one _
 have s:i<am.size:=by omega
 rw[ax (show i<z.length*bS.sz by show i<z.length*1;omega),Array.getElem?_toList,Sort.putCells,Array.getElem?_mapIdx,qq s,oc,ax ⟨bN _,by simpa using hi⟩,bE hi,oc,getElem!_pos z.toArray (i - 0) (by simpa using hi)];simp
 rw[ag (show ¬i<z.length*bS.sz by show ¬i<z.length*1;omega),kg aa];rfl
 show ((w.heap.modify g _)++os)[b]? = _
 rw[tS (by simpa using p),qs,ag (λq=>r (by simp[q]))]
theorem JY {w:World} {e g c:Nat} {L:List Int} (h: (au e bS (some ⟨g,0,none⟩) c L).pred w):Sort.Holds (Value.int .i64) w g 0 L.toArray∧g<w.heap.size∧L.length≤c∧c≤maxLen:=by
 obtain⟨q,i | ⟨r,cap,am,k,_,d,l,m,s,n⟩⟩:=(h:w.ownsRow 0 e 1 (.slice (some ⟨g,0,none⟩) L.length c) L.length (bS.all L));cases i.1
 injection k with a t o
 injection a with a
 injection a with a
 subst a;subst o
 refine⟨λj f=>⟨?_,by simp[World.frozen?,d]⟩,(lz.1 d).1,l,m⟩;have p:j<L.length:=by simpa using f
 rw[cell_of_row w g _ am e (0,0) d,dG];have b: (bS.all L)[j]? = some (.int .i64 L[j]):=by rw[rD,eJ,bE p];rfl
 rw[←n,is] at b
 split at b
 rw[getElem!_pos _ j f];simpa using b
 cases b
theorem WU {w:World} {α:Type} {E:bA α} {e:Nat} {A:Option Addr} {c j:Nat} {L:List α} (a:j≤L.length) (h: (Mq.au e E A c L).pred w): (Mq.au e E A c (L.take j)).pred w:=by
 have b:=Ct (e:=e) (sz:=E.sz) a h
 rw[←bA.Cw] at b
 show w.ownsRow 0 _ _ (.slice A (L.take j).length c) (L.take j).length _
 rw[dn,iv a];exact b
theorem JZ {w:World} {α:Type} {E:bA α} {e:Nat} {A:Option Addr} {c:Nat} {L:List α} (h: (Mq.au e E A c L).pred w) (a:0<L.length): ∃g,A=some ⟨g,0,none⟩:=Bl h a
theorem WV (w:World) (z:gf) (b:bb w [z.au]) (i:z.l.length≤1000000):Calls prog 138 [z.val].toArray w
 (aP (λ_:List Int=> .tuple #[]) [z.au] (λl=>[gf.au ⟨z.A,z.c,l⟩]) (λl=>l.length=z.l.length) w):=by
 have d:=b.start w rfl
 rcases gF z.l.length with a | a
 have:=calls_of_every_depth λD=>AnyS.slices_Sort_int_none_alone JV D z.A z.c w
 show Calls prog _ #[.slice z.A z.l.length z.c] w _
 rw[a];refine Calls.mono this ?_;rintro e w' ⟨rfl,rfl⟩;exact aP.bP z.l a rfl d;obtain⟨g,f⟩:=JZ (e:=3) (b.all z.au av) a;obtain⟨A,c,l⟩:=z;dsimp only at f
 subst f;have ai: (au 3 bS (some ⟨g,0,none⟩) c l).pred w:=b.all (gf.au ⟨some ⟨g,0,none⟩,c,l⟩) av
 obtain⟨j,m,o,p⟩:=JY ai;refine Calls.mono (Any.slices_Sort_int JV g 0 c l w j m (by dsimp only at i;omega)) ?_;rintro e w' ⟨rfl,k,os,rfl⟩;have h:=JX ai (z:=l.mergeSort λx y=>decide (x≤y)) (by rw[List.length_mergeSort]) k os
 exact aP.bP (l.mergeSort λx y=>decide (x≤y)) (by rw[List.length_mergeSort]) rfl (d.hV bn.head h.2 h.1 (λk n=> .inl n) (by simp[Mq.au,own,Value.ownBlock]))
theorem WW (w:World) (z:gf) (b:bb w [z.au]) (m:z.l.length≤1000000):Calls prog 139 [z.val].toArray w
 (aP (λy:gf=>y.val) [z.au] (λy=>[y.au]) (λy=>y.l.length≤z.l.length) w):=by
 have f:=b.start w rfl
 rcases gF z.l.length with a | a
 have:=calls_of_every_depth λD=>AnyS.slices_Compact_int_empty_in JW D z.A z.c w
 show Calls prog _ #[.slice z.A z.l.length z.c] w _
 rw[a];refine Calls.mono this ?_;rintro e w' ⟨rfl,rfl⟩;exact aP.bP z aa (by rw[gf.val,a]) f;obtain⟨g,h⟩:=JZ (e:=3) (b.all z.au av) a;obtain⟨A,c,l⟩:=z;dsimp only at h
 subst h;have ai: (au 3 bS (some ⟨g,0,none⟩) c l).pred w:=b.all (gf.au ⟨some ⟨g,0,none⟩,c,l⟩) av
 obtain⟨n,r,o,s⟩:=JY ai;refine Calls.mono (calls_of_every_depth λD=>AnyS.slices_Compact_int_in JW D g 0 c l w n (by dsimp only at m;omega) o) ?_;rintro e w' ⟨rfl,k,rfl⟩;have p:=Lib.compact_length_le l
 have d:=JX ai (z:=Lib.compact l++List.replicate (l.length - (Lib.compact l).length) 0) (by simp;omega) k #[]
 rw[Sort.grow_empty] at d
 have i:=WU (j:=(Lib.compact l).length) av d.1
 rw[List.take_left] at i
 exact aP.bP ⟨some ⟨g,0,none⟩,c,Lib.compact l⟩ p rfl (f.hV bn.head d.2 i (λk q=> .inl q) (by simp[Mq.au,own,Value.ownBlock]))
end Go.Proofs.YtkeokgcdnfjaaaaGreatDoor.Mq
