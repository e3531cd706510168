/- part 36 of the proof -/
import Derived.Test.YtlgnfdodnhokjaaGreatDoorQ35
import Derived.Shelf.Sort.Plain
import Derived.Shelf.Slices.In.SortNone
import Derived.Shelf.Slices.In.CompactI
import Derived.Lib.RowBridge
namespace Go.Proofs.YtlgnfdodnhokjaaGreatDoor.Mq
open Go Go.RowKit Go.Proofs Tryz
abbrev fd.enc (b:fd):List Value:=[.int .u64 b.id,.int .i64 b.phase,.int .i64 b.start.row,.int .i64 b.start.cM,.int .i64 b.input.row,.int .i64 b.input.cM,.int .i64 b.output.row,.int .i64 b.output.cM,.int .i64 b.done.row,.int .i64 b.done.cM,.int .i64 b.stop.row,.int .i64 b.stop.cM,.int .i64 b.code,.bool b.has,.bool b.cut,.string (bs b.dir),.string (bs b.line)]
def jU:bA fd:=⟨fd.enc,17,λ_=>rfl,λ_=>by repeat (first | exact aI.nil | refine aI.cons rfl ?_)⟩
structure rS where
 A:Option Addr
 c:Nat
 l:List fd
abbrev rS.val (r:rS):Value:= .slice r.A r.l.length r.c
abbrev rS.au (r:rS):Chunk:=Mq.au 58 jU r.A r.c r.l
abbrev Dc (a b c d:aY):List Value:=[.int .i64 a.row,.int .i64 a.cM,.int .i64 b.row,.int .i64 b.cM,.int .i64 c.row,.int .i64 c.cM,.int .i64 d.row,.int .i64 d.cM]
theorem Xz (e:bb) (q:aY) (h:e.br≤4):df (Dc q q q q) 0 (cf.all (e.pl.take e.br))=Dc (e.pl.getD 0 q) (e.pl.getD 1 q) (e.pl.getD 2 q) (e.pl.getD 3 q):=by
 obtain⟨g,code,has,cut,dir,line,id,b_,dP,gk,m8,br⟩:=e;match br,(show br≤4 from h) with
 | 0,_=>rfl
 | 1,_=>rfl
 | 2,_=>rfl
 | 3,_=>rfl
 | 4,_=>rfl
set_option maxHeartbeats 2000000 in
theorem Kx (w:World) (e:bb) (d:e.an.pred w) (ai:e.br≤4) (q:aY):Calls prog 83 [ptr e.g,d_ q].toArray w (Pure (.agg (ms e.abs q).enc.toArray) w):=by
 have h:=lE e ai
 refine aV func83 ntmps83 ?_;refine ah ?_;intro p r s;refine ar ?_;intro t u v;refine aQ ?_;intro i x y;refine aS ?_;refine bF [0,1] 2 [[(2,false,[]),(3,true,[])]] ?_;refine aL rfl (λc a=>(J_ (sz:=2) 4 underlying192 sizeOf35 rfl rfl (.inr ⟨rfl,rfl⟩) aa aG)) ?_;refine ah ?_;refine ao rfl wW rfl (λj l=>y0 j e (l.dF d av) ai) ?_;refine ah ?_;refine Ka (E:=cf) (src:=e.pl) (g:=i) (o:=0) (xs:=Dc q q q q) (te:=192) (F:=λk=>k=e.g) e.br aa dD rfl rfl rfl cA (λw' m=>(Ks d ai).ext m.ext av) (by show 0+4*2≤8;omega) ?_;refine ay ?_;rw[Xz e q ai];refine bF [0,1,2,3,4,5,6,7,8,9,10,11,12,13,14,15,16,17,18,19,20,21,22,23,24,25,26,27,28,29,30,31,32,33,34,35,36,37,38,39,40,41,42] 1 [[(43,true,[])]] ?_;refine ah ?_;refine aL rfl (λc a=>(a_ q1 rfl rfl (λf b=>by subst b;exact a.bU d (by (simp;done)) rfl) aG)) ?_;refine ah ?_;refine aL rfl (λc a=>(a_ bN rfl rfl (λf b=>by subst b;exact a.bU d (by (simp;done)) rfl) aG)) ?_;refine aL rfl (λc a=>(ds (q:=0) underlying192 mL rfl rfl rfl bc aa aG)) ?_;refine ar ?_;refine aL rfl (λc a=>(ds (q:=1) underlying192 mL rfl rfl rfl bc aa aG)) ?_;refine ar ?_;refine aL rfl (λc a=>(ds (q:=2) underlying192 mL rfl rfl rfl bc aa aG)) ?_;refine ar ?_;refine aL rfl (λc a=>(ds (q:=3) underlying192 mL rfl rfl rfl bc aa aG)) ?_;refine al ?_;refine aL rfl (λc a=>(a_ bN rfl rfl (λf b=>by subst b;exact a.bU d (by (simp;done)) rfl) aG)) ?_;refine aS ?_;refine aL rfl (λc a=>(a_ oI rfl rfl (λf b=>by subst b;exact a.bU d (by (simp;done)) rfl) aG)) ?_;refine aS ?_;refine aL rfl (λc a=>(a_ oI rfl rfl (λf b=>by subst b;exact a.bU d (by (simp;done)) rfl) aG)) ?_;refine aS ?_;refine aL rfl (λc a=>(a_ no rfl rfl (λf b=>by subst b;exact a.bU d (by (simp;done)) rfl) aG)) ?_;refine aS ?_;refine aL rfl (λc a=>(a_ no rfl rfl (λf b=>by subst b;exact a.bU d (by (simp;done)) rfl) aG)) ?_;refine aL rfl (λc a=>(ks (out:=[.int .u64 e.id,.int .i64 (e.br:Int),.int .i64 (e.pl.getD 0 q).row,.int .i64 (e.pl.getD 0 q).cM,.int .i64 (e.pl.getD 1 q).row,.int .i64 (e.pl.getD 1 q).cM,.int .i64 (e.pl.getD 2 q).row,.int .i64 (e.pl.getD 2 q).cM,.int .i64 (e.pl.getD 3 q).row,.int .i64 (e.pl.getD 3 q).cM,.int .i64 q.row,.int .i64 q.cM,.int .i64 e.code,.bool e.has,.bool e.cut,.string (bs e.dir),.string (bs e.line)]) wS rfl rfl (by simp[hF,putAt,df,Value.cells]) aG)) ?_;refine aq ?_;refine e3 gz rfl rfl ew bc (aI.cons rfl (aI.cons rfl (aI.cons rfl (aI.cons rfl (aI.cons rfl (aI.cons rfl (aI.cons rfl (gg rfl rfl rfl rfl rfl rfl rfl rfl rfl rfl)))))))) (dV rfl) ?_;refine al ?_;intro z n;exact⟨by simp only[ms,bb.abs,h];rfl,n.ext⟩
theorem Ky (q:aY) (l:List er): (jS q l).length=l.length:=by
 have:=aU List.length (CY q l)
 rwa [cB,cB] at this
theorem Kz (q:aY): ∀(l:List er) (i:Nat) (e:er),l[i]? = some e→(jS q l)[i]? = some (ms e (match l[i+1]? with | some d=>mr d | none=>q))
 | [],i,e,h=>by cases h
 | [a],0,e,h=>by cases h;rfl
 | [a],i+1,e,h=>by simp at h
 | a::b::l,0,e,h=>by cases h;rfl
 | a::b::l,i+1,e,h=>Kz q (b::l) i e h
theorem XA {s:cO} {e f:bb} (b:s.l[0]? = some f) (d:s.l.getLast?=some e) (q:aY):lD s.abs q=hb (mr f.abs)::jS (ix q (hA e.abs)) (s.l.map bb.abs):=by
 obtain⟨g,A,c,l,most,ids,dir⟩:=s;cases l with
 | nil=>cases b
 | cons a l=>
  cases b
  have h: ((f::l).map bb.abs).getLastD f.abs=e.abs:=by
   rw[List.getLastD_eq_getLast?,List.getLast?_map,d];rfl
  show hb (mr f.abs)::jS (ix q (hA (((f::l).map bb.abs).getLastD f.abs))) ((f::l).map bb.abs)=_
  rw[h]
set_option maxHeartbeats 1000000 in
theorem KA (w:World) (s:cO) (n:s.an.pred w) (ai: (et s.A s.c s.l).pred w) (y: (eW s.l).pred w) (p:gv s.l) (Zl:s.l.length≤10000) (q:aY):Calls prog 46 [ptr s.g,d_ q].toArray w
 (aP (λz:rS=>z.val) [] (λz=>[z.au]) (λz=>z.l=lD s.abs q) w):=by
 have W:=yV ai
 refine aV func46 ntmps46 ?_;refine ah ?_;intro O Zm Zn;refine aC ?_;refine ao rfl Ng rfl (λa b=>W1 a s (b.dF n av)) ?_;refine ah ?_;refine aj (λP=>?_) (λP=>?_);have X:s.l=[]:=iC aa
 refine al ?_;refine ks (out:=fd.enc (hb q)) wS rfl rfl (by simp[hF,putAt,df,Value.cells,hb];rfl) ?_;refine dy (E:=jU) (hb q) mJ rfl rfl rfl rfl rfl (λZo Zp Zq=>?_);refine al ?_;intro Y D;exact aP.bQ ⟨_,_,[hb q]⟩ (by unfold lD;rw[show s.abs.blocks=s.l.map bb.abs from rfl,X];rfl) rfl (D.ax ae);obtain⟨Z,o,B⟩:=W.2.2 aa;obtain⟨f,F⟩ : ∃f,s.l[0]? = some f:=⟨_,bE aa⟩;obtain⟨e,G⟩ : ∃e,s.l.getLast?=some e:=⟨_,wC (λZa=>P (by rw[Za];rfl))⟩;have Q:=ut G
 have R:=da F
 have H: (et (some ⟨Z,o,none⟩) s.c s.l).pred w:=B▸ai
 have Zb:=mu y R
 have Zc:=we f (p f R)
 have I:=XA F G q
 obtain⟨T,S⟩ : ∃T,T=ix q (hA e.abs):=⟨_,rfl⟩;rw[←S] at I
 rw[Zc] at I
 refine ah ?_;refine bF [0,1] 4 [[(2,false,[]),(3,false,[]),(4,false,[]),(5,true,[])]] ?_;refine aS ?_;refine ao rfl zR rfl (λa b=>(by have h:=C2 a s (b.dF n av) (b.dF ai av);rw[G] at h;exact h)) ?_;refine ah ?_;refine ao rfl ED rfl (λa b=>Kh a e (b.dF (mu y Q) av) (p e Q)) ?_;refine ah ?_;refine ao rfl EC rfl (λa b=>(by have h:=J3 a q (hA e.abs);rw[←S] at h;exact h)) ?_;refine b3 (λ_=>True) (λ_ h=> .inr ⟨.inr ⟨.inr h,dp⟩,dp⟩) (λ_ h=>a1) ?_;refine bx ?_;refine a_ mK rfl rfl (λJ m=>m.bU n (by (simp;done)) rfl) ?_;refine bC (q:=0) k7 rfl rfl rfl B rfl aa ?_;refine a_ (v:=ptr f.g) np rfl rfl (λC k=>k.cu (od H F) av) ?_;refine aq ?_;refine ds (q:=0) underlying192 mL rfl rfl rfl bc aa ?_;refine cx (vs:=f.b_.enc) eg rfl rfl rfl (λC k j u K=>k.jJ (sz:=2) Zb av rfl j u K) ?_;refine ar ?_;intro Zr Zs Zt;refine aJ ?_;refine ks (out:=fd.enc (hb f.b_)) wS rfl rfl (by simp[hF,putAt,df,Value.cells,hb];rfl) ?_;refine dy (E:=jU) (hb f.b_) mJ rfl rfl rfl rfl rfl (λZu Zv Zw=>?_);refine aJ ?_;refine a_ mK rfl rfl (λJ m=>m.bU n (by (simp;done)) rfl) ?_;refine ay ?_;refine b2 (ι:=Nat × rS) (λt=>[(0,ptr s.g),(3,ptr O),(6,t.2.val),(43,.slice s.A s.l.length s.c),(44,.int .i64 (s.l.length:Int)),(45,.int .i64 (t.1 :Int))]) (λt=>af w [] [aD O T.enc 35,t.2.au]) (λt=>t.1≤s.l.length∧t.2.l=hb f.b_::(jS T (s.l.map bb.abs)).take t.1) (λt=>s.l.length - t.1) ?_ ?_;exact λw' Zd=>⟨(0,⟨_,_,[hb f.b_]⟩),⟨bP _,rfl⟩,(ip rfl rfl rfl rfl rfl rfl),Zd.ax ae⟩
 rintro⟨i,z⟩ ⟨hi,r⟩;dsimp only at hi r ⊢
 have Zx:z.l.length=i+1:=by rw[r,eO,dl,Ky,cB];omega
 refine al ?_;refine aj (λZe=>?_) (λZe=>?_);obtain⟨d,ak⟩ : ∃d,s.l[i]? = some d:=⟨_,bE aa⟩;have L:=da ak
 have U:=mu y L
 have x:=Kz T (s.l.map bb.abs) i d.abs (by rw[eD,ak];rfl)
 rw[eD] at x
 refine aC ?_;refine bC (q:=i) k7 rfl rfl rfl B rfl aa ?_;refine a_ (v:=ptr d.g) np rfl rfl (λC k=>k.cu (od H ak) av) ?_;refine aK ?_;intro Zy Zz ZA;refine bp ?_;refine a_ mK rfl rfl (λJ m=>m.bU n (by (simp;done)) rfl) ?_;refine aS ?_;refine aj (λZf=>?_) (λZf=>?_);obtain⟨d2,M⟩ : ∃d2,s.l[i+1]? = some d2:=⟨_,bE aa⟩;have V:=da M
 have Zg:=mu y V
 have Zh:=we d2 (p d2 V)
 rw[M] at x
 have N: (jS T (s.l.map bb.abs)).take (i+1)=(jS T (s.l.map bb.abs)).take i++[ms d.abs d2.b_]:=by
  rw[fR,x,←Zh];rfl
 refine aS ?_;refine a_ mK rfl rfl (λJ m=>m.bU n (by (simp;done)) rfl) ?_;refine aq ?_;refine bC (q:=i+1) k7 rfl rfl rfl B rfl aa ?_;refine a_ (v:=ptr d2.g) np rfl rfl (λC k=>k.cu (od H M) av) ?_;refine aq ?_;refine ds (q:=0) underlying192 mL rfl rfl rfl bc aa ?_;refine cx (vs:=d2.b_.enc) eg rfl rfl rfl (λC k j u K=>k.jJ (sz:=2) Zg av rfl j u K) ?_;refine aC ?_;refine ao rfl EE rfl (λa b=>Kx a d (b.dF U av) (p d L).2 d2.b_) ?_;refine dy (E:=jU) (ms d.abs d2.b_) mJ rfl rfl rfl rfl rfl (λZi Zj Zk=>?_);refine eC (E:=jU) mJ rfl rfl rfl bj (λ_ _=>lf) b4 b4 (λZB ZC=>?_);refine aK ?_;exact bi (i+1,⟨_,_,z.l++[ms d.abs d2.b_]⟩) ⟨aa,by dsimp only;rw[N,r];rfl⟩ bm (ip rfl rfl rfl rfl rfl rfl) (λ_ h=>h.ax ae);have N: (jS T (s.l.map bb.abs)).take (i+1)=(jS T (s.l.map bb.abs)).take i++[ms d.abs T]:=by
  rw[kq (show s.l.length≤i+1 by omega)] at x
  rw[fR,x];rfl
 refine al ?_;refine ao rfl EE rfl (λa b=>Kx a d (b.dF U av) (p d L).2 T) ?_;refine dy (E:=jU) (ms d.abs T) mJ rfl rfl rfl rfl rfl (λZi Zj Zk=>?_);refine eC (E:=jU) mJ rfl rfl rfl bj (λ_ _=>lf) b4 b4 (λZD ZE=>?_);refine aK ?_;exact bi (i+1,⟨_,_,z.l++[ms d.abs T]⟩) ⟨aa,by dsimp only;rw[N,r];rfl⟩ bm (ip rfl rfl rfl rfl rfl rfl) (λ_ h=>h.ax ae);refine bH ?_;intro Y D;exact aN z (by rw[r,I,ev (by rw[Ky,cB];omega)]) D
theorem XB {xs vs:List Value} (h:vs.length=xs.length):df xs 0 vs=vs:=by
 rw[je 0 aa,h];simp
theorem bn.whole {cs cs':List Chunk} {g:Nat} {xs vs:List Value} {t:TypeId} (h:bn cs (aD g xs t) (aD g vs t) cs') (a:vs.length=xs.length):bn cs (aD g xs t) (aD g (df xs 0 vs) t) cs':=by
 rw[XB a];exact h
abbrev rT:fd:=⟨0,0,⟨0,0⟩,⟨0,0⟩,⟨0,0⟩,⟨0,0⟩,⟨0,0⟩,0,false,false,[],[]⟩
def rU (r:Option fd):Value:=match r with
 | some b=> .tuple #[.agg b.enc.toArray,.bool true]
 | none=> .tuple #[.agg rT.enc.toArray,.bool false]
set_option maxHeartbeats 1000000 in
theorem XC (w:World) (s:cO) (x:s.an.pred w) (ai: (et s.A s.c s.l).pred w) (y: (eW s.l).pred w) (B:gv s.l) (C:s.l.length≤10000) (id:Int) (q:aY):Calls prog 60 [ptr s.g,.int .u64 id,d_ q].toArray w
 (Pure (rU (kl s.abs id q)) w):=by
 have p:=Ke (s:=s.abs) q
 rw[show s.abs.blocks=s.l.map bb.abs from rfl,cB] at p
 unfold kl;obtain⟨L,r⟩ : ∃L,L=lD s.abs q:=⟨_,rfl⟩;rw[←r] at p ⊢
 refine aV func60 ntmps60 ?_;refine ah ?_;intro O P Q;refine ar ?_;intro t R S;refine aK ?_;refine a6 (l0:=[]) aA.nil rfl Eu rfl (λD a=>KA D s (a.dF x av) (a.dF ai av) (a.dF y av) B C q) (λz d=>?_);refine ay ?_;rw[←r] at d
 refine b2 (ι:=Nat) (λi=>[(1,.int .u64 id),(6,ptr t),(12,z.val),(13,.int .i64 (z.l.length:Int)),(14,.int .i64 (i:Int))]) (λ_=>af w [] [aD t (fd.enc rT) 58,z.au]) (λi=>i≤z.l.length∧L.find? (λb=>decide (b.id=id))=(L.drop i).find? (λb=>decide (b.id=id))) (λi=>z.l.length - i) ?_ ?_;exact λw' F=>⟨0,⟨bP _,rfl⟩,(ec rfl rfl rfl rfl rfl),F.ax ae⟩
 rintro i ⟨hi,G⟩;rw[G];have T:z.l.length=L.length:=by rw[d]
 refine al ?_;refine aj (λH=>?_) (λH=>?_);obtain⟨v,e⟩ : ∃v,z.l[i]? = some v:=⟨_,bE aa⟩;have ak:L.drop i=v::L.drop (i+1):=by
  rw[d] at e
  obtain⟨I,J⟩:=cK.1 e;rw[lK I,J]
 refine al ?_;refine jr (E:=jU) bJ mJ rfl rfl rfl bc aa (λU K=>?_);refine cx (vs:=v.enc) gz rfl rfl rfl (λM f j u k=>f.gJ (E:=jU) bJ K e j u k) ?_;refine ar ?_;intro V W X;refine e3 (vs:=v.enc) gz rfl rfl (bn.whole cA bc) rfl (aI.cons rfl (aI.cons rfl (aI.cons rfl (aI.cons rfl (aI.cons rfl (aI.cons rfl (aI.cons rfl (gg rfl rfl rfl rfl rfl rfl rfl rfl rfl rfl)))))))) (by exact dV rfl) ?_;refine aQ ?_;refine aj (λm=>?_) (λm=>?_);refine aq ?_;refine cx (vs:=v.enc) gz rfl rfl rfl (λM f j u k=>f.k6 (sz:=17) (o:=0) (xs:=v.enc) aT rfl j u k) ?_;refine e3 (vs:=v.enc) gz rfl rfl (bn.whole ew bc) rfl (aI.cons rfl (aI.cons rfl (aI.cons rfl (aI.cons rfl (aI.cons rfl (aI.cons rfl (aI.cons rfl (gg rfl rfl rfl rfl rfl rfl rfl rfl rfl rfl)))))))) (by exact dV rfl) ?_;refine aJ ?_;refine ik results60 (cy.eX gz rfl bJ rfl rfl) (cy.tmp rfl) (λN n=>?_);exact⟨by rw[ak,List.find?_cons_of_pos (by exact bX m)];rfl,n.ext⟩;refine aC ?_;exact bi (i+1) ⟨aa,by rw[ak,List.find?_cons_of_neg (by rw[cg m];decide)]⟩ aa bR (λ_ h=>h.ax ae);refine aC ?_;refine ks (out:=fd.enc rT) wS rfl rfl rfl ?_;refine e3 (vs:=fd.enc rT) gz rfl rfl (bn.whole cA bc) rfl (aI.cons rfl (aI.cons rfl (aI.cons rfl (aI.cons rfl (aI.cons rfl (aI.cons rfl (aI.cons rfl (gg rfl rfl rfl rfl rfl rfl rfl rfl rfl rfl)))))))) (by exact dV rfl) ?_;refine aS ?_;refine ik results60 (cy.eX gz rfl aT rfl rfl) (cy.tmp rfl) (λN n=>?_);exact⟨by rw[ol (l:=L) aa];rfl,n.ext⟩
end Go.Proofs.YtlgnfdodnhokjaaGreatDoor.Mq
namespace Go.Proofs.YtlgnfdodnhokjaaGreatDoor.Mq
open Go Go.RowKit Go.Proofs
structure hh where
 a:Int
 b:Int
 id:Int
structure jz where
 row:Int
 id:Int
 hid:Int
abbrev hh.enc (f:hh):List Value:=[.int .i64 f.a,.int .i64 f.b,.int .u64 f.id]
abbrev jz.enc (f:jz):List Value:=[.int .i64 f.row,.int .u64 f.id,.int .i64 f.hid]
def mv:bA hh:=⟨hh.enc,3,λ_=>rfl,λ_=>aI.cons rfl (aI.cons rfl (aI.cons rfl aI.nil))⟩
def oe:bA jz:=⟨jz.enc,3,λ_=>rfl,λ_=>aI.cons rfl (aI.cons rfl (aI.cons rfl aI.nil))⟩
def fG (rows:Int):Int→List hh→Bool
 | _,[]=>true
 | e,f::l=>if f.a<e∨f.b≤f.a∨rows<f.b then false else fG rows f.b l
def ic (rows:Int):Int→List hh→List hh
 | _,[]=>[]
 | e,f::l=>
  if max 0 f.a<min f.b rows∧e≤max 0 f.a then ⟨max 0 f.a,min f.b rows,f.id⟩::ic rows (min f.b rows) l else ic rows e l
theorem Dd (rows:Int): ∀(l:List hh) (e:Int),fG rows e (ic rows e l)=true
 | [],_=>rfl
 | f::l,e=>by
  unfold ic;split
  rename_i h;unfold fG;rw[ag bm];exact Dd rows l _;exact Dd rows l e
theorem De (rows:Int): ∀(l:List hh) (e:Int),∀g∈ic rows e l,∃f∈l,g.id=f.id∧g.a=max 0 f.a∧g.b=min f.b rows
 | [],_,g,h=>by simp[ic] at h
 | f::l,e,g,h=>by
  unfold ic at h
  split at h
  rcases e1.1 h with rfl | h
  exact⟨f,by simp,rfl,rfl,rfl⟩;obtain⟨x,c,d⟩:=De rows l _ g h;exact⟨x,by simp[c],d⟩;obtain⟨x,c,d⟩:=De rows l _ g h;exact⟨x,by simp[c],d⟩
def lG (a:Int):Nat→List jz
 | 0=>[]
 | n+1=>lG a n++[⟨a+n,0,0⟩]
theorem wl (a:Int): ∀n,(lG a n).length=n
 | 0=>rfl
 | n+1=>by simp[lG,wl a n]
def nd (rows:Int):Int→List hh→List jz
 | r,[]=>lG r (rows - r).toNat
 | r,f::l=>lG r (f.a - r).toNat++⟨f.a,f.id,f.b - f.a⟩::nd rows f.b l
def kZ:Int→List jz→Int→Prop
 | a,[],b=>a=b
 | a,x::l,b=>x.row=a∧(x.id=0↔x.hid=0)∧0≤x.hid∧kZ (a+max 1 x.hid) l b
theorem Df: ∀(l r:List jz) (a b c:Int),kZ a l b→kZ b r c→kZ a (l++r) c
 | [],r,a,b,c,h,k=>by unfold kZ at h;subst h;exact k
 | x::l,r,a,b,c,h,k=>by
  obtain⟨d,e,f,g⟩:=h;exact⟨d,e,f,Df l r _ b c g k⟩
theorem Dg (a:Int): ∀n:Nat,kZ a (lG a n) (a+n)
 | 0=>by simp[lG,kZ]
 | n+1=>by
  refine Df _ _ _ _ _ (Dg a n) ?_;refine⟨rfl,by simp,by simp,?_⟩;simp only[kZ];omega
theorem KB (rows:Int): ∀(l:List hh) (r:Int),r≤rows→fG rows r l=true→(∀f∈l,f.id≠0)→kZ r (nd rows r l) rows
 | [],r,e,_,_=>by
  have:=Dg r (rows - r).toNat
  rw[show r+((rows - r).toNat:Int)=rows by omega] at this
  exact this
 | f::l,r,e,c,hid=>by
  unfold fG at c
  split at c
  cases c
  rename_i h;have d:=Dg r (f.a - r).toNat
  rw[show r+((f.a - r).toNat:Int)=f.a by omega] at d
  refine Df _ _ _ _ _ d ⟨rfl,?_,by dsimp only;omega,?_⟩;have:=hid f av
  dsimp only;omega
  dsimp only;rw[show f.a+max 1 (f.b - f.a)=f.b by omega];exact KB rows l f.b aa c (λg i=>hid g (by simp[i]))
theorem KC (rows:Int): ∀(l:List hh) (r:Int),r≤rows→fG rows r l=true→((nd rows r l).length:Int)≤rows - r
 | [],r,c,_=>by
  unfold nd;rw[wl];omega
 | f::l,r,c,a=>by
  unfold fG at a
  split at a
  cases a
  have:=KC rows l f.b aa a
  unfold nd;rw[b6,eO,wl];omega
end Go.Proofs.YtlgnfdodnhokjaaGreatDoor.Mq
namespace Go.Proofs.YtlgnfdodnhokjaaGreatDoor.Mq
open Go Go.RowKit Go.Proofs Tryz
structure og where
 A:Option Addr
 c:Nat
 l:List hh
abbrev og.val (r:og):Value:= .slice r.A r.l.length r.c
abbrev og.au (r:og):Chunk:=Mq.au 256 mv r.A r.c r.l
structure ne where
 A:Option Addr
 c:Nat
 l:List jz
abbrev ne.val (r:ne):Value:= .slice r.A r.l.length r.c
abbrev ne.au (r:ne):Chunk:=Mq.au 198 oe r.A r.c r.l
abbrev KD (x:jz):Value:= .agg x.enc.toArray
abbrev t_ (x:jz):Prop:=(0≤x.row∧x.row≤1000000)∧0≤x.hid∧x.hid≤1000000
abbrev wm (w:World):=ca (λb:Bool=> .bool b) (λ_=>True) w
theorem XD (w:World) (x:jz) (r:Int) (k:t_ x):Calls prog 143 [KD x,.int .i64 r].toArray w (wm w):=by
 refine aV func143 ntmps143 ?_;refine ah ?_;intro l m n;refine bp ?_;refine aj (λf=>?_) (λf=>?_);refine bx ?_;intro b a;exact ca.of _ a1 rfl a.ext;refine aK ?_;refine aW 15 rfl (λaH=>?_) (λaH=>?_);have g:=aX aH
 refine aK ?_;refine aW 20 rfl (λc=>?_) (λc=>?_);have h:=aX c
 refine aK ?_;refine aW 25 rfl (λd=>?_) (λd=>?_);have i:=aX d
 refine aQ ?_;refine aW 31 rfl (λe=>?_) (λe=>?_);have j:=aX e
 refine hq ?_;intro b a;exact ca.of _ a1 rfl a.ext;have j:=bd e
 refine bH ?_;intro b a;exact ca.of _ a1 rfl a.ext;have i:=bd d
 refine eL ?_;intro b a;exact ca.of _ a1 rfl a.ext;have h:=bd c
 refine jF ?_;intro b a;exact ca.of _ a1 rfl a.ext;have g:=bd aH
 refine xr ?_;intro b a;exact ca.of _ a1 rfl a.ext
theorem XE (w:World) (x:jz) (g:Nat) (r:Int) (a:t_ x) (c: (aD g [.int .i64 r] 3).pred w):Calls prog 142 ([]++[KD x]++[ptr g]).toArray w (wm w):=by
 refine aV func142 ntmps142 ?_;refine ah ?_;intro h i j;refine al ?_;refine a_ bN rfl rfl (λk d=>d.bU c (by (simp;done)) rfl) ?_;refine a6 (l0:=[]) aA.nil rfl NG rfl (λe _=>XD e x r a) (λb _=>?_);refine ay ?_;intro l f;exact ca.of b a1 rfl f.ext
theorem XF (w:World) (F:Nat→Prop) (A:Option Addr) (n c:Nat) (L:List jz) (d:Rd oe w F A n c L) (f: ∀x∈L,t_ x) (G:n≤1000000) (g:Nat) (r:Int) (l: (aD g [.int .i64 r] 3).pred w):
 Calls prog 141 [.slice A n c,.func (.func 142) #[] #[ptr g]].toArray w (ca (λk:Int=> .int .i64 k) (λk=> -1≤k∧k<n) w):=by
 have H:=d.len
 refine aV func141 ntmps141 ?_;refine b7 ?_;refine b2 (ι:=Nat) (λi=>[(0,.slice A n c),(1,.func (.func 142) #[] #[ptr g]),(6,.slice A n c),(7,.int .i64 (n:Int)),(8,.int .i64 (i:Int))]) (λ_=>af w [] []) (λi=>i≤n) (λi=>n - i) ?_ ?_;exact λw' m=>⟨0,bP _,(ec rfl rfl rfl rfl rfl),m⟩
 intro i hi;refine al ?_;refine aj (λo=>?_) (λo=>?_);obtain⟨v,e⟩ : ∃v,L[i]? = some v:=⟨_,bE aa⟩;obtain⟨bY,p,I,s⟩:=d.at_ e;have t:=f v (da e)
 refine cF ?_;refine bC (q:=i) sv rfl rfl rfl p rfl aa ?_;refine cx (vs:=v.enc) MB rfl rfl rfl (λJ y j u z=>y.cu (s j u z) av) ?_;refine lU (l0:=[]) (first:=[]) (cap:=[ptr g]) aA.nil rfl rfl NF rfl (λB C=>XE B v g r t (C.dF l av)) (λb _=>?_);refine aq ?_;refine b1 rfl (λD=>?_) (λD=>?_);refine bH ?_;intro E a;exact ca.of (i:Int) ⟨aa,aa⟩ rfl a.ext;refine aC ?_;exact bi (i+1) aa aa bR (λ_ h=>h);refine bx ?_;intro E a;exact ca.of (-1) ⟨aa,aa⟩ rfl a.ext
theorem XG (w:World) (F:Nat→Prop) (A:Option Addr) (n c:Nat) (L:List jz) (b:Rd oe w F A n c L) (d: ∀x∈L,t_ x) (e:n≤1000000) (r:Int):
 Calls prog 90 [.slice A n c,.int .i64 r].toArray w (ca (λt:Int × Bool=> .tuple #[.int .i64 t.1,.bool t.2]) (λt=>0≤t.1∧t.1≤n) w):=by
 refine aV func90 ntmps90 ?_;refine ah ?_;intro f i j;refine aK ?_;refine a6 (l0:=[]) aA.nil rfl NE rfl (λg a=>XF g F A n c L (b.ext a.ext av) d e f r (a.has aT)) (λk l=>?_);refine cF ?_;intro m h;exact ca.of (_,_) bm rfl h.ext
theorem XH (w:World) (F:Nat→Prop) (A:Option Addr) (n c:Nat) (L:List hh) (o:Rd mv w F A n c L) (J:n≤1000000) (rows:Int):
 Calls prog 146 [.int .i64 rows,.slice A n c].toArray w (Pure (.bool (fG rows 0 L)) w):=by
 have K:=o.len
 refine aV func146 ntmps146 ?_;refine eL ?_;refine b2 (ι:=Nat × Int) (λt=>[(0,.int .i64 rows),(5,.int .i64 t.2),(8,.slice A n c),(9,.int .i64 (n:Int)),(10,.int .i64 (t.1 :Int))]) (λ_=>af w [] []) (λt=>t.1≤n∧fG rows 0 L=fG rows t.2 (L.drop t.1)) (λt=>n - t.1) ?_ ?_;exact λw' s=>⟨(0,0),⟨bP _,rfl⟩,(ec rfl rfl rfl rfl rfl),s⟩
 rintro⟨i,e⟩ ⟨hi,p⟩;dsimp only at hi p ⊢
 rw[p];refine al ?_;refine aj (λx=>?_) (λx=>?_);obtain⟨⟨a,b,id⟩,r⟩ : ∃v,L[i]? = some v:=⟨_,bE aa⟩;obtain⟨bY,y,M,B⟩:=o.at_ r;have ak:L.drop i=⟨a,b,id⟩::L.drop (i+1):=by
  obtain⟨f,C⟩:=cK.1 r;rw[lK f,C]
 have D: ¬(a<e∨b≤a∨rows<b)→fG rows e (L.drop i)=fG rows b (L.drop (i+1)):=λh=>by rw[ak,fG,ag h]
 have g: (a<e∨b≤a∨rows<b)→false=fG rows e (L.drop i):=λh=>by rw[ak,fG,aw h]
 refine al ?_;refine bC (q:=i) oJ rfl rfl rfl y rfl aa ?_;refine cx (vs:=[.int .i64 a,.int .i64 b,.int .u64 id]) zI rfl rfl rfl (λN f j u E=>f.cu (B j u E) av) ?_;refine ar ?_;intro O P Q;refine bp ?_;refine aW 18 rfl (λk=>?_) (λk=>?_);have G:=aX k
 refine xq ?_;intro m d;exact⟨aU (λz=>Ending.returned (Value.bool z)) (g aa),d.ext⟩;have G:=bd k
 refine bx ?_;refine aW 25 rfl (λaH=>?_) (λaH=>?_);have H:=aX aH
 refine hr ?_;intro m d;exact⟨aU (λz=>Ending.returned (Value.bool z)) (g aa),d.ext⟩;have H:=bd aH
 refine bp ?_;refine aj (λI=>?_) (λI=>?_);refine bH ?_;intro m d;exact⟨aU (λz=>Ending.returned (Value.bool z)) (g aa),d.ext⟩;refine bH ?_;exact bi (i+1,b) ⟨aa,D aa⟩ bm bR (λ_ h=>h.ax aA.nil);refine bx ?_;intro m d;exact⟨by rw[ol (l:=L) aa];rfl,d.ext⟩
theorem XI (w:World) (F:Nat→Prop) (A:Option Addr) (n c:Nat) (L:List hh) (k:Rd mv w F A n c L) (K:n≤1000000) (rows:Int):
 Calls prog 148 [.int .i64 rows,.slice A n c].toArray w (aP (λz:og=>z.val) [] (λz=>[z.au]) (λz=>z.l=ic rows 0 L) w):=by
 have M:=k.len
 refine aV func148 ntmps148 ?_;refine oP ?_;refine cH (H':=af w [] [og.au ⟨none,0,[]⟩]) ?_ (Sub.refl _) (λx p=>p.eU 256 mv);refine ar ?_;refine b2 (ι:=Nat × Int × og) (λt=>[(0,.int .i64 rows),(5,t.2.2.val),(6,.int .i64 t.2.1),(9,.slice A n c),(10,.int .i64 (n:Int)),(11,.int .i64 (t.1 :Int))]) (λt=>af w [] [t.2.2.au]) (λt=>t.1≤n∧t.2.2.l.length≤t.1∧ic rows 0 L=t.2.2.l++ic rows t.2.1 (L.drop t.1)) (λt=>n - t.1) ?_ ?_;exact λw' r=>⟨(0,0,⟨none,0,[]⟩),⟨bP _,bP _,rfl⟩,(ip rfl rfl rfl rfl rfl rfl),r⟩
 rintro⟨i,e,z⟩ ⟨hi,s,d⟩;dsimp only at hi s d ⊢
 refine al ?_;refine aj (λy=>?_) (λy=>?_);obtain⟨⟨a,b,id⟩,m⟩ : ∃v,L[i]? = some v:=⟨_,bE aa⟩;obtain⟨bY,B,N,C⟩:=k.at_ m;have ak:L.drop i=⟨a,b,id⟩::L.drop (i+1):=by
  obtain⟨f,D⟩:=cK.1 m;rw[lK f,D]
 have o: ¬(max 0 a<min b rows∧e≤max 0 a)→ic rows 0 L=z.l++ic rows e (L.drop (i+1)):=λh=>by rw[d,ak,ic,ag h]
 have G: (max 0 a<min b rows∧e≤max 0 a)→ic rows 0 L=(z.l++[⟨max 0 a,min b rows,id⟩])++ic rows (min b rows) (L.drop (i+1)):=λh=>by rw[d,ak,ic,aw h];simp
 refine al ?_;refine bC (q:=i) oJ rfl rfl rfl B rfl aa ?_;refine cx (vs:=[.int .i64 a,.int .i64 b,.int .u64 id]) zI rfl rfl rfl (λO f j u H=>f.cu (C j u H) av) ?_;refine ar ?_;intro P Q R;refine lV ?_;refine aW 29 rfl (λg=>?_) (λg=>?_);have I:=aX g
 refine bp ?_;refine aj (λaH=>?_) (λaH=>?_);refine aS ?_;refine dy (E:=mv) ⟨_,_,_⟩ oJ rfl rfl rfl rfl rfl (λS T U=>?_);refine eC (E:=mv) oJ rfl rfl rfl bj (λ_ _=>ew) b4 b4 (λV W=>?_);refine b7 ?_;exact bi (i+1,min b rows,⟨_,_,z.l++[⟨max 0 a,min b rows,id⟩]⟩) ⟨aa,by dsimp only;rw[b6,jY];omega,G aa⟩ bm (ip rfl rfl rfl rfl rfl rfl) (λ_ h=>h.ax ae);refine aC ?_;exact bi (i+1,e,z) ⟨aa,by dsimp only;omega,o aa⟩ bm bR (λ_ h=>h.ax ae);have I:=bd g
 refine cF ?_;exact bi (i+1,e,z) ⟨aa,by dsimp only;omega,o aa⟩ bm bR (λ_ h=>h.ax ae);refine bH ?_;intro X J;exact aN z (by rw[d,ol (l:=L) aa];simp[ic]) J
abbrev pv (a b:Nat) (z:ne) (r:Int):List Chunk:=[aD a [z.val] 110,aD b [.int .i64 r] 3,z.au]
theorem XJ (a:Int) (n:Nat):lG a (n+1)=lG a n++[⟨a+n,0,0⟩]:=rfl
theorem KE (w:World) (a b:Nat) (z:ne) (r to:Int) (e:a8 w (pv a b z r)) (s:0≤r) (u:to≤1000000) (v:z.l.length≤1000000):
 Calls prog 147 ([]++[Value.int .i64 to]++[ptr b,ptr a]).toArray w (aP (λ_:ne=> .tuple #[]) (pv a b z r) (λy=>pv a b y (max r to)) (λy=>y.l=z.l++lG r (to - r).toNat) w):=by
 refine bI func147 ntmps147 e ?_;refine ar ?_;refine b2 (ι:=Nat × ne) (λ_=>[(0,.int .i64 to),(1,ptr b),(2,ptr a)]) (λt=>af w (aB (pv a b z r)) (pv a b t.2 (r+t.1))) (λt=>(t.1=0∨r+t.1≤to)∧t.2.l=z.l++lG r t.1) (λt=>(to - r).toNat - t.1) ?_ ?_;exact λw' f=>⟨(0,z),⟨.inl rfl,by simp[lG]⟩,(em rfl rfl rfl),by rw[show r+((0 :Nat):Int)=r by omega];exact f⟩
 rintro⟨k,y⟩ ⟨g,c⟩;dsimp only at g c ⊢
 have x:y.l.length=z.l.length+k:=by rw[c,b6,wl]
 obtain⟨q,d⟩ : ∃q,q=r+(k:Int):=⟨_,rfl⟩;rw[←d];refine aK ?_;refine aj (λi=>?_) (λi=>?_);refine aK ?_;refine dy (E:=oe) ⟨_,_,_⟩ sv rfl rfl rfl rfl rfl (λA B C=>?_);refine eC (E:=oe) sv rfl rfl rfl bj (λ_ _=>lf) b4 b4 (λj m=>?_);refine aJ ?_;refine bi (k+1,⟨j,m,y.l++[⟨q,0,0⟩]⟩) ⟨.inr bm,by dsimp only;rw[c,XJ,ea,←d]⟩ bm (em rfl rfl rfl) (λ_ h=>?_);rw[show r+((k+1 :Nat):Int)=q+1 by omega];exact h.ax ae;refine ay ?_;intro D n;have o:max r to=q:=by omega
 have p: (to - r).toNat=k:=by omega
 refine aP.bQ y (by rw[c,p]) rfl ?_;rw[o];exact n.ax ae
theorem XK (rows r:Int) (f:hh) (l:List hh):nd rows r (f::l)=lG r (f.a - r).toNat++⟨f.a,f.id,f.b - f.a⟩::nd rows f.b l:=rfl
theorem XL (w:World) (F:Nat→Prop) (A:Option Addr) (n c:Nat) (L:List hh) (p:Rd mv w F A n c L) (G:n≤1000000) (rows:Int) (H:0≤rows∧rows≤200000) (C:fG rows 0 L=true):
 Calls prog 93 [.int .i64 rows,.slice A n c].toArray w (aP (λz:ne=> .tuple #[z.val,.int .i64 0]) [] (λz=>[z.au]) (λz=>z.l=nd rows 0 L) w):=by
 have W:=p.len
 refine aV func93 ntmps93 ?_;refine bx ?_;refine cC rfl rfl (cg aa) ?_;refine ar ?_;refine cC rfl rfl (cg aa) ?_;refine ar ?_;refine kt rfl rfl (cg aa) rfl ?_;refine ar ?_;refine cC rfl rfl (cg aa) ?_;refine ar ?_;refine cC rfl rfl (cg aa) ?_;refine ar ?_;refine cC rfl rfl (cg aa) ?_;refine ao rfl NJ rfl (λk m=>(by have h:=XH k F A n c L (p.ext m.ext av) G rows;rw[C] at h;exact h)) ?_;refine cC rfl rfl (cg aa) ?_;refine ar ?_;refine kt rfl rfl (cg aa) rfl ?_;refine aC ?_;refine oD Mr rfl (λd X Y=>?_);refine aS ?_;refine oD bN rfl (λe Z Za=>?_);refine ey ?_;refine cH (H':=af w [] (pv d e ⟨none,0,[]⟩ 0)) ?_ (Sub.refl _) (λx I=>(I.eU 198 oe).ax ae);refine ar ?_;refine b2 (ι:=Nat × ne × Int) (λt=>[(0,.int .i64 rows),(6,ptr d),(7,ptr e),(8,.func (.func 147) #[] #[ptr e,ptr d]),(24,.slice A n c),(25,.int .i64 (n:Int)),(26,.int .i64 (t.1 :Int))]) (λt=>af w [] (pv d e t.2.1 t.2.2)) (λt=>t.1≤n∧(t.2.1.l.length:Int)≤t.2.2∧0≤t.2.2∧t.2.2≤rows∧fG rows t.2.2 (L.drop t.1)=true∧nd rows 0 L=t.2.1.l++nd rows t.2.2 (L.drop t.1)) (λt=>n - t.1) ?_ ?_;exact λw' J=>⟨(0,⟨none,0,[]⟩,0),⟨bP _,by simp,by simp,H.1,C,rfl⟩,(gX rfl rfl rfl rfl rfl rfl rfl),J⟩
 rintro⟨i,z,r⟩ ⟨hi,K,s,M,f,g⟩;dsimp only at hi K s M f g ⊢
 refine al ?_;refine aj (λN=>?_) (λN=>?_);obtain⟨⟨a,b,id⟩,D⟩ : ∃v,L[i]? = some v:=⟨_,bE aa⟩;obtain⟨bY,O,Zb,P⟩:=p.at_ D;have ak:L.drop i=⟨a,b,id⟩::L.drop (i+1):=by
  obtain⟨B,Q⟩:=cK.1 D;rw[lK B,Q]
 rw[ak,fG] at f
 rw[ak,XK] at g
 dsimp only at f g
 have R: ¬(a<r∨b≤a∨rows<b):=λh=>by rw[aw h] at f;cases f
 rw[ag R] at f
 refine al ?_;refine bC (q:=i) oJ rfl rfl rfl O rfl aa ?_;refine cx (vs:=[.int .i64 a,.int .i64 b,.int .u64 id]) zI rfl rfl rfl (λZc B j u S=>B.cu (P j u S) av) ?_;refine ar ?_;intro Zd Ze Zf;refine aK ?_;refine lU (l0:=pv d e z r) (first:=[]) (cap:=[ptr e,ptr d]) ae rfl rfl EN rfl (λk m=>KE k d e z r a (m.bo ae) s aa aa) (λy o=>?_);have Zg:y.l.length=z.l.length+(a - r).toNat:=by rw[o,b6,wl]
 refine cF ?_;refine dy (E:=oe) ⟨_,_,_⟩ sv rfl rfl rfl rfl rfl (λZh Zi Zj=>?_);refine eC (E:=oe) sv rfl rfl rfl bj (λ_ _=>lf) b4 b4 (λT U=>?_);refine b7 ?_;refine bi (i+1,⟨T,U,y.l++[⟨a,id,b - a⟩]⟩,b) ⟨aa,by dsimp only;rw[b6,jY];omega,by dsimp only;omega,by dsimp only;omega,f,by dsimp only;rw[g,o];simp⟩ bm (gX rfl rfl rfl rfl rfl rfl rfl) (λ_ h=>h.ax ae);rw[ol (l:=L) aa] at g
 refine aJ ?_;refine lU (l0:=pv d e z r) (first:=[]) (cap:=[ptr e,ptr d]) ae rfl rfl EN rfl (λk m=>KE k d e z r rows (m.bo ae) s aa aa) (λy o=>?_);refine bp ?_;intro Zk V;exact aN y (by rw[g,o];rfl) V
def XM:Shelf.Ren:=⟨λ| 125=>204 | 128=>293 | 129=>294 | 189=>144 | 215=>364 | 216=>290 | 257=>203 | 294=>284 | 295=>285 | 296=>286 | 297=>287 | 298=>288 | 299=>289 | 300=>291 | 301=>292 | 328=>359 | 329=>360 | 330=>361 | 331=>362 | 332=>363 | 343=>413 | n=>n,λ| 0=>0 | 3=>3 | 4=>4 | 5=>5 | 9=>9 | 28=>73 | 46=>268 | 51=>116 | 53=>54 | 131=>43 | 182=>349 | 183=>350 | 218=>387 | 222=>391 | 228=>421 | 229=>212 | n=>n,λn=>n⟩
theorem KF:Lays.n189 prog XM where
 mixed:=by kernel_rfl
 f125:=func204.trans (aU some ab)
 f128:=func293.trans (aU some ab)
 f129:=func294.trans (aU some ab)
 f189:=func144.trans (aU some ab)
 f215:=func364.trans (aU some ab)
 f216:=func290.trans (aU some ab)
 f257:=func203.trans (aU some ab)
 f294:=func284.trans (aU some ab)
 f295:=func285.trans (aU some ab)
 f296:=func286.trans (aU some ab)
 f297:=func287.trans (aU some ab)
 f298:=func288.trans (aU some ab)
 f299:=func289.trans (aU some ab)
 f300:=func291.trans (aU some ab)
 f301:=func292.trans (aU some ab)
 f328:=func359.trans (aU some ab)
 f329:=func360.trans (aU some ab)
 f330:=func361.trans (aU some ab)
 f331:=func362.trans (aU some ab)
 f332:=func363.trans (aU some ab)
 f343:=func413.trans (aU some ab)
 t0:=underlying0
 a0:=isAgg0
 z0:=sizeOf0
 v0:=zeroValue0
 t3:=underlying3
 a3:=isAgg3
 z3:=sizeOf3
 v3:=zeroValue3
 t4:=underlying4
 a4:=isAgg4
 z4:=sizeOf4
 v4:=zeroValue4
 t5:=underlying5
 a5:=isAgg5
 z5:=sizeOf5
 v5:=zeroValue5
 t9:=underlying9
 a9:=isAgg9
 z9:=sizeOf9
 v9:=zeroValue9
 t28:=underlying73
 a28:=isAgg73
 z28:=sizeOf73
 v28:=zeroValue73
 t46:=underlying268
 a46:=isAgg268
 z46:=sizeOf268
 v46:=zeroValue268
 t51:=underlying116
 a51:=isAgg116
 z51:=sizeOf116
 v51:=zeroValue116
 t53:=underlying54
 a53:=isAgg54
 z53:=sizeOf54
 v53:=zeroValue54
 t131:=underlying43
 a131:=isAgg43
 z131:=sizeOf43
 v131:=zeroValue43
 t182:=underlying349
 a182:=isAgg349
 z182:=sizeOf349
 v182:=zeroValue349
 t183:=underlying350
 a183:=isAgg350
 z183:=sizeOf350
 v183:=zeroValue350
 t218:=underlying387
 a218:=isAgg387
 z218:=sizeOf387
 v218:=zeroValue387
 t222:=underlying391
 a222:=isAgg391
 z222:=sizeOf391
 v222:=zeroValue391
 t228:=underlying421
 a228:=isAgg421
 z228:=sizeOf421
 v228:=zeroValue421
 t229:=underlying212
 a229:=isAgg212
 z229:=sizeOf212
 v229:=zeroValue212
def XN:Shelf.Ren:=⟨λ| 20=>145 | n=>n,λ| 0=>0 | 3=>3 | 4=>4 | 22=>73 | n=>n,λn=>n⟩
theorem KG:Lays2.n20 prog XN where
 mixed:=by kernel_rfl
 f20:=func145.trans (aU some ab)
 t0:=underlying0
 a0:=isAgg0
 z0:=sizeOf0
 v0:=zeroValue0
 t3:=underlying3
 a3:=isAgg3
 z3:=sizeOf3
 v3:=zeroValue3
 t4:=underlying4
 a4:=isAgg4
 z4:=sizeOf4
 v4:=zeroValue4
 t22:=underlying73
 a22:=isAgg73
 z22:=sizeOf73
 v22:=zeroValue73
 i3:=by kernel_rfl
structure gn where
 A:Option Addr
 c:Nat
 l:List Int
abbrev gn.val (r:gn):Value:= .slice r.A r.l.length r.c
abbrev gn.au (r:gn):Chunk:=Mq.au 3 bT r.A r.c r.l
theorem rV: ∀l:List Int,bT.all l=l.map (Value.int .i64)
 | []=>rfl
 | a::l=>by
  show [Value.int .i64 a]++bT.all l=_
  rw[rV l];rfl
theorem KH {w:World} {e g c:Nat} {L z:List Int} (h: (au e bT (some ⟨g,0,none⟩) c L).pred w) (t:z.length=L.length) (k:Nat) (os:Array Obj):
 (au e bT (some ⟨g,0,none⟩) c z).pred (Sort.grow (Sort.putRow (Value.int .i64) (Sort.ahead w k) g 0 z.toArray) os)∧Ext [g] w (Sort.grow (Sort.putRow (Value.int .i64) (Sort.ahead w k) g 0 z.toArray) os):=by
 obtain⟨u,j | ⟨v,cap,am,l,_,d,x,m,f,y⟩⟩:=(h:w.ownsRow 0 e 1 (.slice (some ⟨g,0,none⟩) L.length c) L.length (bT.all L));cases j.1
 injection l with a A n
 injection a with a
 injection a with a
 subst a;subst n
 have o:g<w.heap.size:=(lH.1 d).1
 refine⟨?_,rfl,rfl,rfl,by simp[Sort.grow,Sort.putRow,Sort.mapBlock],λb p r=>?_⟩;refine⟨by rw[bT.dI],.inr ⟨g,c,Sort.putCells (Value.int .i64) 0 z.toArray am,rfl,bP _,?_,aa,m,by rw[Sort.putCells,Array.size_mapIdx];exact f,?_⟩⟩;show ((w.heap.modify g _)++os)[g]? = _
 rw[uk (by simpa using o),qG,aw rfl,d];rfl
 rw[rV];apply mz
 intro i;rw[iD,eD];by_cases hi:i<z.length
 have B:am.size=c:=by rw[f];exact Nat.mul_one _
 have s:i<am.size:=by omega
 rw[aw (show i<z.length*bT.sz by show i<z.length*1;omega),Array.getElem?_toList,Sort.putCells,Array.getElem?_mapIdx,qF s,oz,aw ⟨bP _,by simpa using hi⟩,bE hi,oz,getElem!_pos z.toArray (i - 0) (by simpa using hi)];simp
 rw[ag (show ¬i<z.length*bT.sz by show ¬i<z.length*1;omega),kq aa];rfl
 show ((w.heap.modify g _)++os)[b]? = _
 rw[uk (by simpa using p),qG,ag (λq=>r (by simp[q]))]
theorem KI {w:World} {e g c:Nat} {L:List Int} (h: (au e bT (some ⟨g,0,none⟩) c L).pred w):Sort.Holds (Value.int .i64) w g 0 L.toArray∧g<w.heap.size∧L.length≤c∧c≤maxLen:=by
 obtain⟨q,i | ⟨r,cap,am,k,_,d,l,m,s,n⟩⟩:=(h:w.ownsRow 0 e 1 (.slice (some ⟨g,0,none⟩) L.length c) L.length (bT.all L));cases i.1
 injection k with a t o
 injection a with a
 injection a with a
 subst a;subst o
 refine⟨λj f=>⟨?_,by simp[World.frozen?,d]⟩,(lH.1 d).1,l,m⟩;have p:j<L.length:=by simpa using f
 rw[cell_of_row w g _ am e (0,0) d,dE];have b: (bT.all L)[j]? = some (.int .i64 L[j]):=by rw[rV,eD,bE p];rfl
 rw[←n,iD] at b
 split at b
 rw[getElem!_pos _ j f];simpa using b
 cases b
theorem XO {w:World} {α:Type} {E:bA α} {e:Nat} {A:Option Addr} {c j:Nat} {L:List α} (a:j≤L.length) (h: (Mq.au e E A c L).pred w): (Mq.au e E A c (L.take j)).pred w:=by
 have b:=CQ (e:=e) (sz:=E.sz) a h
 rw[←bA.CT] at b
 show w.ownsRow 0 _ _ (.slice A (L.take j).length c) (L.take j).length _
 rw[dl,iG a];exact b
theorem KJ {w:World} {α:Type} {E:bA α} {e:Nat} {A:Option Addr} {c:Nat} {L:List α} (h: (Mq.au e E A c L).pred w) (a:0<L.length): ∃g,A=some ⟨g,0,none⟩:=BI h a
theorem XP (w:World) (z:gn) (b:a8 w [z.au]) (i:z.l.length≤1000000):Calls prog 144 [z.val].toArray w
 (aP (λ_:List Int=> .tuple #[]) [z.au] (λl=>[gn.au ⟨z.A,z.c,l⟩]) (λl=>l.length=z.l.length) w):=by
 have d:=b.start w rfl
 rcases gw z.l.length with a | a
 have:=calls_of_every_depth λD=>AnyS.slices_Sort_int_none_alone KF D z.A z.c w
 show Calls prog _ #[.slice z.A z.l.length z.c] w _
 rw[a];refine Calls.mono this ?_;rintro e w' ⟨rfl,rfl⟩;exact aP.bQ z.l a rfl d;obtain⟨g,f⟩:=KJ (e:=3) (b.all z.au av) a;obtain⟨A,c,l⟩:=z;dsimp only at f
 subst f;have ai: (au 3 bT (some ⟨g,0,none⟩) c l).pred w:=b.all (gn.au ⟨some ⟨g,0,none⟩,c,l⟩) av
 obtain⟨j,m,o,p⟩:=KI ai;refine Calls.mono (Any.slices_Sort_int KF g 0 c l w j m (by dsimp only at i;omega)) ?_;rintro e w' ⟨rfl,k,os,rfl⟩;have h:=KH ai (z:=l.mergeSort λx y=>decide (x≤y)) (by rw[List.length_mergeSort]) k os
 exact aP.bQ (l.mergeSort λx y=>decide (x≤y)) (by rw[List.length_mergeSort]) rfl (d.ie bn.head h.2 h.1 (λk n=> .inl n) (by simp[Mq.au,own,Value.ownBlock]))
theorem XQ (w:World) (z:gn) (b:a8 w [z.au]) (m:z.l.length≤1000000):Calls prog 145 [z.val].toArray w
 (aP (λy:gn=>y.val) [z.au] (λy=>[y.au]) (λy=>y.l.length≤z.l.length) w):=by
 have f:=b.start w rfl
 rcases gw z.l.length with a | a
 have:=calls_of_every_depth λD=>AnyS.slices_Compact_int_empty_in KG D z.A z.c w
 show Calls prog _ #[.slice z.A z.l.length z.c] w _
 rw[a];refine Calls.mono this ?_;rintro e w' ⟨rfl,rfl⟩;exact aP.bQ z aa (by rw[gn.val,a]) f;obtain⟨g,h⟩:=KJ (e:=3) (b.all z.au av) a;obtain⟨A,c,l⟩:=z;dsimp only at h
 subst h;have ai: (au 3 bT (some ⟨g,0,none⟩) c l).pred w:=b.all (gn.au ⟨some ⟨g,0,none⟩,c,l⟩) av
 obtain⟨n,r,o,s⟩:=KI ai;refine Calls.mono (calls_of_every_depth λD=>AnyS.slices_Compact_int_in KG D g 0 c l w n (by dsimp only at m;omega) o) ?_;rintro e w' ⟨rfl,k,rfl⟩;have p:=Lib.compact_length_le l
 have d:=KH ai (z:=Lib.compact l++List.replicate (l.length - (Lib.compact l).length) 0) (by simp;omega) k #[]
 rw[Sort.grow_empty] at d
 have i:=XO (j:=(Lib.compact l).length) av d.1
 rw[List.take_left] at i
 exact aP.bQ ⟨some ⟨g,0,none⟩,c,Lib.compact l⟩ p rfl (f.ie bn.head d.2 i (λk q=> .inl q) (by simp[Mq.au,own,Value.ownBlock]))
end Go.Proofs.YtlgnfdodnhokjaaGreatDoor.Mq
