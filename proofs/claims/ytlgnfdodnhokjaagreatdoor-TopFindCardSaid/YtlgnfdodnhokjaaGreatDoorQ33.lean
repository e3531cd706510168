/- part 33 of the proof -/
import Derived.Test.YtlgnfdodnhokjaaGreatDoorQ32
namespace Go.Proofs.YtlgnfdodnhokjaaGreatDoor.Mq
open Go Go.RowKit Go.Proofs Tryz
abbrev pt (g:Nat) (most:Int):ce:=⟨g,0,l_,l_,l_,0,false,false,most,0,⟨0,0,0,0,0⟩⟩
theorem Ww {g:Nat} {n:Int} (h:1≤n∧n≤65536):fN (pt g n):=⟨by simp,by simp,by simp;omega,h,⟨by simp,by simp⟩,by simp⟩
theorem Wx (w:World) (n:Int) (h:1≤n∧n≤65536):Calls prog 69 [.int .i64 n].toArray w
 (aP (λg:Nat=> .tuple #[gt g,.int .i64 0]) [] (λg=>c_ (pt g n)) (λ_=>True) w):=by
 refine aV func69 ntmps69 ?_;refine bx ?_;refine aW 6 rfl (λa=>?_) (λa=>?_);have d:=aX a
 refine cF ?_;intro c b
 (exfalso;omega)
 have d:=bd a
 refine aC ?_;refine aj (λaH=>?_) (λaH=>?_);refine aJ ?_;intro c b
 (exfalso;omega)
 refine aC ?_;intro e f i;refine al ?_;intro c b;exact aP.bQ e a1 rfl (b.BQ ae)
def yT (rows cols lines:Int):fc:=⟨mc rows cols lines,mc rows cols 0,false,du.pn,[],[],[]⟩
theorem JZ {s:bl} {rows cols lines:Int} (b:1≤rows∧rows≤100) (c:2≤cols∧cols≤100) (d:0≤lines∧lines≤100) (h:dR s∧s.abs=mc rows cols lines):dU s:=by
 refine⟨h.1,by rw[h.2];exact T4 ⟨b.1,aa⟩ ⟨c.1,aa⟩ ⟨d.1,aa⟩,?_,?_,?_⟩;have a: (b5 s.ap.s.l).length=_:=aU (λq=>q.bD.cG.length) h.2
 rw[b5,cB] at a
 rw[a];simp only[mc,pi,hj];omega
 have a:s.ap.cols=cols:=aU (λq=>q.bD.cols) h.2
 omega
 have a:s.ap.r.room=lines:=aU (λq=>q.bD.room) h.2
 omega
theorem J0 {s:bl} {rows cols lines:Int} (h:s.abs=mc rows cols lines):s.ap.bf.l=[]:=aU (λq=>q.bD.gi) h
set_option maxHeartbeats 1000000 in
theorem Wy [Inhabited bO] (w:World) (rows cols lines n:Int) (c:1≤rows∧rows≤100) (b:2≤cols∧cols≤100) (h:0≤lines∧lines≤100) (k:1≤n∧n≤65536):Calls prog 39 [.int .i64 rows,.int .i64 cols,.int .i64 lines,.int .i64 n].toArray w
 (aP (λi:Nat × Nat × bL=> .tuple #[ptr i.1,.int .i64 0]) [] (λi=>[aR (c_ (pt i.2.1 n)),eN i.1 i.2.1 i.2.2,aR (aO i.2.2.am),aR (aO i.2.2.bk),i.2.2.buf.au,i.2.2.aF.au]) (λi=>cp i.1 lines 0 i.2.2∧i.2.2.abs=yT rows cols lines) w):=by
 refine aV func39 ntmps39 ?_;refine bp ?_;refine a6 (l0:=[]) aA.nil rfl EA rfl (λa _=>IA a rows cols lines ⟨c.1,aa⟩ ⟨b.1,aa⟩ ⟨h.1,aa⟩) (λs1 d=>?_);refine aQ ?_;refine a6 (l0:=[]) aA.nil rfl Na rfl (λa _=>Wx a n k) (λap _=>?_);refine bH ?_;refine aW 30 rfl (λe=>?_) (λe=>?_);have m:=aX e
 refine cF ?_;intro j f
 (exfalso;omega)
 have m:=bd e
 refine aC ?_;refine aj (λaH=>?_) (λaH=>?_);refine aJ ?_;intro j f
 (exfalso;omega)
 refine al ?_;refine a6 (l0:=[]) aA.nil rfl EA rfl (λa _=>IA a rows cols 0 ⟨c.1,aa⟩ ⟨b.1,aa⟩ ⟨aZ,aZ⟩) (λs2 g=>?_);refine bH ?_;refine ao rfl zQ rfl (λa b=>du.vm a) ?_;refine aq ?_;intro o p s;refine al ?_;intro j f;exact aP.bQ (o,ap,⟨s1,s2,false,du.pn,[],none,⟨none,0,[]⟩,⟨none,0,[]⟩⟩) ⟨⟨JZ c b h d,JZ c b ⟨aZ,aZ⟩ g,(aU (λq=>q.bD.room) d.2 :s1.ap.r.room=lines),.inl rfl,by simp,by rw[J0 d.2,J0 g.2];simp,by simp,by simp,show du.pn<4294967296 by decide⟩,by simp only[bL.abs,d.2,g.2];rfl⟩ rfl (((((f.close (l:=aO s2) ae).close (l:=c_ (pt ap n)) ae).close (l:=aO s1) ae).eU 5 cz).eU 182 lw |>.ax ae)
abbrev dO (n:Int):Prop:=0≤n∧n≤1099511627776
abbrev dk (p:aY):Prop:=dO p.row∧dO p.cM
abbrev dZ (s:eh):Prop:=(s.kind=0∨s.kind=1∨s.kind=2)∧dO s.at_∧dO s.n∧0<s.n
def ib (s:eh):Int:=if s.kind=2 then 0 else s.at_
def lA (p:aY) (s:eh):aY:=
 if ¬dk p∨ ¬dZ s∨p.row<ib s then p else
 if s.kind=0 then ⟨p.row+s.n,p.cM⟩ else
 if p.row<ib s+s.n then ⟨ib s,0⟩ else ⟨p.row - s.n,p.cM⟩
def qw (p:aY) (s:eh):Bool:=decide (dk p∧dZ s∧s.kind≠0∧ib s≤p.row∧p.row<ib s+s.n)
def ix (a b:aY):aY:=if eA a b=true then b else a
abbrev d_ (p:aY):Value:= .agg p.enc.toArray
abbrev rN (s:eh):Value:= .agg s.enc.toArray
theorem qx (w:World) (n:Int):Calls prog 189 [.int .i64 n].toArray w (Pure (.bool (decide (dO n))) w):=by
 refine aV func189 ntmps189 ?_;refine aQ ?_;refine aW 5 rfl (λa=>?_) (λa=>?_);have c:=aX a
 refine aQ ?_;intro d b;exact⟨by rw[Ending.returned.injEq,Value.bool.injEq];symm;(rw[gQ];omega),b.ext⟩;have c:=bd a
 refine aK ?_;intro d b;exact⟨by rw[Ending.returned.injEq,Value.bool.injEq];symm;(rw[e2];omega),b.ext⟩
theorem J1 (w:World) (p:aY):Calls prog 191 [d_ p].toArray w (Pure (.bool (decide (dk p))) w):=by
 refine aV func191 ntmps191 ?_;refine ah ?_;intro g h i;refine aC ?_;refine ao rfl pN rfl (λa d=>qx a _) ?_;refine ar ?_;refine aW 6 rfl (λb=>?_) (λb=>?_);have e:=aX b
 refine ay ?_;refine ao rfl pN rfl (λa d=>qx a _) ?_;refine al ?_;intro f c;exact⟨by rw[Ending.returned.injEq,Value.bool.injEq];symm;simp only[dO,dk,dZ] at *;(rw[gQ];omega),c.ext⟩;have e:=bd b
 refine aJ ?_;intro f c;exact⟨by rw[Ending.returned.injEq,Value.bool.injEq];symm;simp only[dO,dk,dZ] at *;(rw[e2];omega),c.ext⟩
theorem yU (w:World) (s:eh):Calls prog 126 [rN s].toArray w (Pure (.bool (decide (dZ s))) w):=by
 refine aV func126 ntmps126 ?_;refine ah ?_;intro x y z;refine aJ ?_;refine aW 6 rfl (λe=>?_) (λe=>?_);have m:=aX e
 refine cF ?_;refine ao rfl pN rfl (λb d=>qx b _) ?_;refine aq ?_;refine aW 21 rfl (λaH=>?_) (λaH=>?_);have n:=aX aH
 refine ay ?_;refine ao rfl pN rfl (λb d=>qx b _) ?_;refine aq ?_;refine aW 26 rfl (λf=>?_) (λf=>?_);have o:=aX f
 refine bx ?_;intro c a;exact⟨by rw[Ending.returned.injEq,Value.bool.injEq];symm;simp only[dO,dk,dZ] at *;(rw[gQ];omega),a.ext⟩;have o:=bd f
 refine aJ ?_;intro c a;exact⟨by rw[Ending.returned.injEq,Value.bool.injEq];symm;simp only[dO,dk,dZ] at *;(rw[e2];omega),a.ext⟩;have n:=bd aH
 refine b7 ?_;intro c a;exact⟨by rw[Ending.returned.injEq,Value.bool.injEq];symm;simp only[dO,dk,dZ] at *;(rw[e2];omega),a.ext⟩;have m:=bd e
 refine aK ?_;refine aW 11 rfl (λg=>?_) (λg=>?_);have p:=aX g
 refine aQ ?_;refine ao rfl pN rfl (λb d=>qx b _) ?_;refine aq ?_;refine aW 21 rfl (λh=>?_) (λh=>?_);have q:=aX h
 refine ay ?_;refine ao rfl pN rfl (λb d=>qx b _) ?_;refine aq ?_;refine aW 26 rfl (λi=>?_) (λi=>?_);have r:=aX i
 refine bx ?_;intro c a;exact⟨by rw[Ending.returned.injEq,Value.bool.injEq];symm;simp only[dO,dk,dZ] at *;(rw[gQ];omega),a.ext⟩;have r:=bd i
 refine aJ ?_;intro c a;exact⟨by rw[Ending.returned.injEq,Value.bool.injEq];symm;simp only[dO,dk,dZ] at *;(rw[e2];omega),a.ext⟩;have q:=bd h
 refine b7 ?_;intro c a;exact⟨by rw[Ending.returned.injEq,Value.bool.injEq];symm;simp only[dO,dk,dZ] at *;(rw[e2];omega),a.ext⟩;have p:=bd g
 refine aK ?_;refine aW 16 rfl (λj=>?_) (λj=>?_);have t:=aX j
 refine ay ?_;refine ao rfl pN rfl (λb d=>qx b _) ?_;refine aq ?_;refine aW 21 rfl (λk=>?_) (λk=>?_);have u:=aX k
 refine ay ?_;refine ao rfl pN rfl (λb d=>qx b _) ?_;refine aq ?_;refine aW 26 rfl (λl=>?_) (λl=>?_);have v:=aX l
 refine bx ?_;intro c a;exact⟨by rw[Ending.returned.injEq,Value.bool.injEq];symm;simp only[dO,dk,dZ] at *;(rw[gQ];omega),a.ext⟩;have v:=bd l
 refine aJ ?_;intro c a;exact⟨by rw[Ending.returned.injEq,Value.bool.injEq];symm;simp only[dO,dk,dZ] at *;(rw[e2];omega),a.ext⟩;have u:=bd k
 refine b7 ?_;intro c a;exact⟨by rw[Ending.returned.injEq,Value.bool.injEq];symm;simp only[dO,dk,dZ] at *;(rw[e2];omega),a.ext⟩;have t:=bd j
 refine eL ?_;intro c a;exact⟨by rw[Ending.returned.injEq,Value.bool.injEq];symm;simp only[dO,dk,dZ] at *;(rw[e2];omega),a.ext⟩
theorem J2 (w:World) (s:eh):Calls prog 190 [rN s].toArray w (Pure (.int .i64 (ib s)) w):=by
 refine aV func190 ntmps190 ?_;refine ah ?_;intro d e f;refine bp ?_;refine aj (λb=>?_) (λb=>?_);refine aK ?_;intro c a;exact⟨by rw[ib,aw bv],a.ext⟩;refine bp ?_;intro c a;exact⟨by rw[ib,ag bv],a.ext⟩
theorem CM (w:World) (p:aY) (s:eh):Calls prog 129 [d_ p,rN s].toArray w (Pure (.bool (qw p s)) w):=by
 have j:dZ s→0≤ib s∧ib s≤1099511627776:=λh=>by unfold ib;split <;> simp only[dZ,dO] at h <;> omega
 obtain⟨G,g⟩ : ∃G,G=ib s:=⟨_,rfl⟩;unfold qw;rw[←g] at j ⊢
 refine aV func129 ntmps129 ?_;refine ah ?_;intro o q r;refine ar ?_;intro t u v;refine al ?_;refine ao rfl EX rfl (λb i=>(by have h:=J2 b s;rw[←g] at h;exact h)) ?_;refine al ?_;refine ao rfl EY rfl (λb i=>J1 b p) ?_;refine ar ?_;refine aW 10 rfl (λd=>?_) (λd=>?_);have k:=aX d
 refine ah ?_;refine ao rfl wZ rfl (λb i=>yU b s) ?_;refine aq ?_;refine aW 14 rfl (λaH=>?_) (λaH=>?_);have l:=aX aH
 refine aK ?_;refine aW 19 rfl (λe=>?_) (λe=>?_);have m:=aX e
 refine aQ ?_;refine aW 25 rfl (λf=>?_) (λf=>?_);have n:=aX f
 refine hq ?_;intro c a;exact⟨by rw[Ending.returned.injEq,Value.bool.injEq];symm;simp only[dO,dk,dZ] at *;(rw[gQ];omega),a.ext⟩;have n:=bd f
 refine bH ?_;intro c a;exact⟨by rw[Ending.returned.injEq,Value.bool.injEq];symm;simp only[dO,dk,dZ] at *;(rw[e2];omega),a.ext⟩;have m:=bd e
 refine eL ?_;intro c a;exact⟨by rw[Ending.returned.injEq,Value.bool.injEq];symm;simp only[dO,dk,dZ] at *;(rw[e2];omega),a.ext⟩;have l:=bd aH
 refine jF ?_;intro c a;exact⟨by rw[Ending.returned.injEq,Value.bool.injEq];symm;simp only[dO,dk,dZ] at *;(rw[e2];omega),a.ext⟩;have k:=bd d
 refine xq ?_;intro c a;exact⟨by rw[Ending.returned.injEq,Value.bool.injEq];symm;simp only[dO,dk,dZ] at *;(rw[e2];omega),a.ext⟩
def qy (a b:aY):Int:=if a=b then 0 else if eA a b=true then -1 else 1
theorem Wz (a b:aY):decide (qy a b<0)=eA a b:=by
 unfold qy;by_cases h:a=b
 rw[aw h];subst h;unfold eA;simp
 rw[ag h];by_cases c:eA a b=true
 rw[aw c,c];rfl
 rw[ag c];rw[Bool.not_eq_true] at c
 rw[c];rfl
theorem WA (w:World) (a b:aY):
 Calls prog 102 [.agg a.enc.toArray,.agg b.enc.toArray].toArray w (λe w'=>e= .returned (.int .i64 (qy a b))∧Ext [] w w'):=by
 refine aV func102 ntmps102 ?_;refine ah ?_;intro l m n;refine ar ?_;intro o p q;refine aJ ?_;refine zx Ea rfl rfl rfl ab (AE a b) ?_;refine ah ?_;refine aj (λh=>?_) (λh=>?_);have d:a=b:=h
 refine aJ ?_;intro f c;exact⟨by unfold qy;rw[aw d],c.ext⟩;have d:a≠b:=h
 refine aK ?_;refine aW 15 rfl (λg=>?_) (λg=>?_);refine lV ?_;intro f c;exact⟨by unfold qy eA;rw[ag d,aw (bX (Or.inl (aX g)))],c.ext⟩;refine bx ?_;refine aW 21 rfl (λi=>?_) (λi=>?_);refine dB ?_;refine aj (λj=>?_) (λj=>?_);refine aJ ?_;intro f c;exact⟨by unfold qy eA;rw[ag d,aw (bX (Or.inr ⟨aX i,j⟩))],c.ext⟩;refine aQ ?_;intro f c;have k:=bd g
 exact⟨by unfold qy eA;rw[ag d,ag (by simp;omega)],c.ext⟩;refine kA ?_;intro f c;have k:=bd g
 have r:=bd i
 exact⟨by unfold qy eA;rw[ag d,ag (by simp;omega)],c.ext⟩
theorem vY (w:World) (a b:aY):
 Calls prog 63 [.agg a.enc.toArray,.agg b.enc.toArray].toArray w (λe w'=>e= .returned (.bool (eA a b))∧Ext [] w w'):=by
 refine aV func63 ntmps63 ?_;refine ah ?_;intro d f g;refine ar ?_;intro h i j;refine aC ?_;refine ao rfl Nn rfl (λw' _=>WA w' a b) ?_;refine al ?_;intro k c;exact⟨by rw[Wz],c.ext⟩
theorem J3 (w:World) (a b:aY):Calls prog 80 [d_ a,d_ b].toArray w (Pure (d_ (ix a b)) w):=by
 refine aV func80 ntmps80 ?_;refine ah ?_;intro g i j;refine ar ?_;intro k l m;refine ar ?_;intro n o p;refine aC ?_;refine ao rfl uJ rfl (λd q=>vY d a b) ?_;refine aq ?_;refine aj (λe=>?_) (λe=>?_);refine aJ ?_;intro f c;exact⟨by rw[ix,aw (show eA a b=true from bX bv)];rfl,c.ext⟩;refine aQ ?_;intro f c;exact⟨by rw[ix,ag (show ¬eA a b=true from λh=>absurd (aX h) bv)];rfl,c.ext⟩
theorem CN (w:World) (p:aY) (s:eh):Calls prog 128 [d_ p,rN s].toArray w (Pure (d_ (lA p s)) w):=by
 have g:dZ s→0≤ib s∧ib s≤1099511627776:=λh=>by unfold ib;split <;> simp only[dZ,dO] at h <;> omega
 obtain⟨G,i⟩ : ∃G,G=ib s:=⟨_,rfl⟩;unfold lA;rw[←i] at g ⊢
 refine aV func128 ntmps128 ?_;refine ah ?_;intro r m t;refine ar ?_;intro u v x;refine ar ?_;intro y z A;refine ay ?_;refine ao rfl EX rfl (λb j=>(by have h:=J2 b s;rw[←i] at h;exact h)) ?_;refine aK ?_;refine ao rfl EY rfl (λb j=>J1 b p) ?_;refine aq ?_;refine aW 18 rfl (λk=>?_) (λk=>?_);refine sQ ?_;intro c a;exact⟨by rw[aw (by simp only[bZ,dk,dZ,dO] at *;omega)];rfl,a.ext⟩;refine ah ?_;refine ao rfl wZ rfl (λb j=>yU b s) ?_;refine aS ?_;refine aW 23 rfl (λaH=>?_) (λaH=>?_);refine hq ?_;intro c a;exact⟨by rw[aw (by simp only[bZ,dk,dZ,dO] at *;omega)];rfl,a.ext⟩;refine bx ?_;refine aj (λd=>?_) (λd=>?_);have n:=d
 refine bp ?_;intro c a;exact⟨by rw[aw (by simp only[bZ,dk,dZ,dO] at *;omega)];rfl,a.ext⟩;have n:=d
 have l:dk p∧dZ s:=⟨Decidable.byContradiction λh=>by simp[h] at k,Decidable.byContradiction λh=>by simp[h] at aH⟩
 have m:=g l.2
 simp only[dk,dZ,dO] at l
 refine aK ?_;refine aj (λe=>?_) (λe=>?_);have o:=e
 refine eL ?_;intro c a;exact⟨by rw[ag (by simp only[bZ,dk,dZ,dO] at *;omega),aw (by simp only[bZ,dk,dZ,dO] at *;omega)];rfl,a.ext⟩;have o:=e
 refine bx ?_;refine aj (λf=>?_) (λf=>?_);have q:=f
 refine cF ?_;intro c a;exact⟨by rw[ag (by simp only[bZ,dk,dZ,dO] at *;omega),ag (by simp only[bZ,dk,dZ,dO] at *;omega),aw (by simp only[bZ,dk,dZ,dO] at *;omega)];rfl,a.ext⟩;have q:=f
 refine eL ?_;intro c a;exact⟨by rw[ag (by simp only[bZ,dk,dZ,dO] at *;omega),ag (by simp only[bZ,dk,dZ,dO] at *;omega),ag (by simp only[bZ,dk,dZ,dO] at *;omega)];rfl,a.ext⟩
structure ee where
 A:Option Addr
 c:Nat
 l:List aY
abbrev ee.val (r:ee):Value:= .slice r.A r.l.length r.c
abbrev ee.au (r:ee):Chunk:=Mq.au 35 cf r.A r.c r.l
structure hz where
 g:Nat
 p:ee
 most:Int
abbrev CO (s:hz):List Value:=[s.p.val,.int .i64 s.most]
abbrev hz.an (s:hz):Chunk:=aD s.g (CO s) 166
abbrev gb (s:hz):List Chunk:=[s.an,s.p.au]
structure rO (s:hz):Prop where
 len: (s.p.l.length:Int)≤s.most
 most:1≤s.most∧s.most≤10000
theorem J4 (w:World) (p:aY):Calls prog 88 [d_ p].toArray w (Pure (.bool (decide (dk p))) w):=by
 refine aV func88 ntmps88 ?_;refine ah ?_;intro h i j;refine aJ ?_;refine aW 6 rfl (λb=>?_) (λb=>?_);have e:=aX b
 refine aK ?_;refine aW 11 rfl (λaH=>?_) (λaH=>?_);have f:=aX aH
 refine aK ?_;refine aW 16 rfl (λc=>?_) (λc=>?_);have g:=aX c
 refine bx ?_;intro d a;exact⟨by rw[Ending.returned.injEq,Value.bool.injEq];symm;simp only[dO,dk] at *;(rw[gQ];omega),a.ext⟩;have g:=bd c
 refine aJ ?_;intro d a;exact⟨by rw[Ending.returned.injEq,Value.bool.injEq];symm;simp only[dO,dk] at *;(rw[e2];omega),a.ext⟩;have f:=bd aH
 refine b7 ?_;intro d a;exact⟨by rw[Ending.returned.injEq,Value.bool.injEq];symm;simp only[dO,dk] at *;(rw[e2];omega),a.ext⟩;have e:=bd b
 refine eL ?_;intro d a;exact⟨by rw[Ending.returned.injEq,Value.bool.injEq];symm;simp only[dO,dk] at *;(rw[e2];omega),a.ext⟩
theorem WB (w:World) (n:Int) (h:1≤n∧n≤10000):Calls prog 41 [.int .i64 n].toArray w
 (aP (λg:Nat=> .tuple #[ptr g,.int .i64 0]) [] (λg=>gb ⟨g,⟨none,0,[]⟩,n⟩) (λ_=>True) w):=by
 refine aV func41 ntmps41 ?_;refine bx ?_;refine aW 6 rfl (λa=>?_) (λa=>?_);have d:=aX a
 refine cF ?_;intro c b
 (exfalso;omega)
 have d:=bd a
 refine aC ?_;refine aj (λaH=>?_) (λaH=>?_);refine aJ ?_;intro c b
 (exfalso;omega)
 refine aC ?_;intro e f i;refine al ?_;intro c b;exact aP.bQ e a1 rfl ((b.eU 35 cf).ax ae)
theorem J5 (w:World) (s:hz) (c:a8 w (gb s)) (a:rO s):Calls prog 49 [ptr s.g].toArray w
 (aP (λz:ee=>z.val) (gb s) (λz=>gb s++[z.au]) (λz=>z.l=s.p.l) w):=by
 have i:=a.len
 have j:=a.most
 refine bI func49 ntmps49 c ?_;refine hr ?_;refine qV 35 2 ?_;refine oH (E:=cf) (src:=s.p.l) (F:=λ_=>True) (xs:=[]) dD rfl rfl rfl (λ_=>by exact cA) (λw' d=>hv (d.has cr)) (by simp only[maxLen];omega) aa (λf k=>?_);refine jd (e:=35) (sz:=2) (v:=f) aT (λdG c9 h _ _ _ _=>?_);subst h;refine ay ?_;intro m b;simp only[dE,lO] at b ⊢
 exact aN ⟨dG,c9,s.p.l⟩ rfl b
structure vZ (s z:hz):Prop where
 g:z.g=s.g
 most:z.most=s.most
 ok:rO z
def CP (s:hz) (v:Value) (w:World):Ending→World→Prop:=aP (λ_:hz=>v) (gb s) gb (vZ s) w
theorem WC (w:World) (s:hz) (n:a8 w (gb s)) (b:rO s) (p:aY):Calls prog 76 [ptr s.g,d_ p].toArray w (CP s (.tuple #[]) w):=by
 have B:=b.len
 have C:=b.most
 obtain⟨c,d⟩:=p;refine bI func76 ntmps76 n ?_;refine ah ?_;intro j D G;refine bp ?_;refine ao rfl EH rfl (λo H=>J4 o ⟨c,d⟩) ?_;refine ay ?_;refine b1 rfl (λi=>?_) (λi=>?_);simp only[bZ] at i
 refine ah ?_;intro k a;exact aN s ⟨rfl,rfl,b⟩ a;simp only[bZ] at i
 refine aS ?_;refine bF [0,1,2,3,4,5,6,7,8,9] 0 [[]] ?_;refine bH ?_;refine aj (λaH=>?_) (λaH=>?_);refine al ?_;refine jd (e:=35) (sz:=2) (v:=s.p.val) cr (λI J q K _ _ _=>?_);cases q
 refine qV 35 2 ?_;refine fz 1 s.p.l.length dD rfl rfl (.inl ⟨_,_,rfl,rfl,aa⟩) (.inr ⟨rfl,rfl⟩) aa aa ?_;refine oH (E:=cf) (src:=(s.p.l.take s.p.l.length).drop 1) (F:=λ_=>True) (xs:=[]) dD rfl rfl rfl (λ_=>by exact cA) (λw' r=>(hv (r.has gD)).cut aa aa) (by simp only[maxLen];omega) aa (λt L=>?_);refine jd (e:=35) (sz:=2) (v:=t) aT (λdG c9 u _ _ _ _=>?_);subst u;obtain⟨f,m⟩ : ∃f,f=(s.p.l.take s.p.l.length).drop 1:=⟨_,rfl⟩;have x:f.length=s.p.l.length - 1:=by rw[m];simp
 rw[←m,dE,lO,←x];refine ay ?_;refine eF [0,1,2,3,4,5] 3 [[(6,false,[]),(7,false,[8,9]),(10,true,[])]] (_) mixed ab (λ_ a=>a.drew) (λ_ h=>(show af _ _ [aD j _ 35,aD s.g _ 166] _ from h.ax ae)) ?_;refine aK ?_;refine dy (E:=cf) ⟨_,_⟩ dD rfl rfl rfl rfl rfl (λy z A=>?_);refine b3 (λ_=>True) (λ_ h=> .inr (h.ax ae)) (λ_ h=>a1) ?_;refine aq ?_;refine eC (E:=cf) dD rfl rfl rfl bj (λ_ _=>cA) b4 b4 (λM N=>?_);refine b3 (λ_=>True) (λ_ h=> .inr ⟨.inr (h.ax ae),dp⟩) (λ_ h=>a1) ?_;refine aJ ?_;intro k a
 (refine aP.bQ ⟨s.g,⟨_,_,f++[⟨c,d⟩]⟩,s.most⟩ ?_ rfl (a.ax ae);exact⟨rfl,rfl,by show (((f++[⟨c,d⟩]:List aY).length:Nat):Int)≤s.most;rw[b6,jY];omega,b.most⟩)
 refine aq ?_;refine eF [0,1,2,3,4,5] 3 [[(6,false,[]),(7,false,[8,9]),(10,true,[])]] (_) mixed ab (λ_ a=>a.drew) (λ_ h=>(show af _ _ [aD j _ 35,aD s.g _ 166] _ from h.ax ae)) ?_;refine aK ?_;refine dy (E:=cf) ⟨_,_⟩ dD rfl rfl rfl rfl rfl (λy z A=>?_);refine b3 (λ_=>True) (λ_ h=> .inr (h.ax ae)) (λ_ h=>a1) ?_;refine aq ?_;refine eC (E:=cf) dD rfl rfl rfl bj (λ_ _=>lf) b4 b4 (λO P=>?_);refine b3 (λ_=>True) (λ_ h=> .inr ⟨.inr (h.ax ae),dp⟩) (λ_ h=>a1) ?_;refine aJ ?_;intro k a
 (refine aP.bQ ⟨s.g,⟨_,_,s.p.l++[⟨c,d⟩]⟩,s.most⟩ ?_ rfl (a.ax ae);exact⟨rfl,rfl,by show (((s.p.l++[⟨c,d⟩]:List aY).length:Nat):Int)≤s.most;rw[b6,jY];omega,b.most⟩)
section
def WD (s:hz) (w:World):Ending→World→Prop:=aP (λi:Int × hz=> .int .i64 i.1) (gb s) (λi=>gb i.2) (λi=>vZ s i.2) w
section
variable {P:Program} {n:Nat} {ops:Array Oper} {Q:cq} {rest:List Oper} {l:Fr} {d:Nat} {ty:TypeId} {pos:String} {a7:Array Edge} {H:World→Prop}
theorem WE {x y:Operand} {t e sz j:Nat} {z:List Value} {A a:Option Addr} {m k c c':Nat} (b:c6 P t e sz j z) (f:k=0) (ak:Nat.blt d n=true) (o:ba l x=some (.slice A m c)) (p:ba l y=some (.slice a k c'))
 (h:az P n ops Q rest ((d,.int .i64 (k:Int))::l) H):az P n ops Q (⟨some d,.call ⟨.builtin .copy,#[x,y],#[t,t]⟩,ty,pos,a7,none⟩::rest) l H:=by
 subst f;obtain⟨i,fs,q,f,u,r,v⟩:=b.inf;refine dd _ ak (λB w g=>?_) h;have s:Nat.min 0 m=0:=iG (bP _)
 cases A <;> cases a <;> simp[loadCells,loadCellsFrom,storeCells,execOp,resolve,invoke,builtin,g x _ o,g y _ p,Builtin.copy_,run_underlying b.fe,Builtin.lenOf,run_sizeOf q,r,s,goInt,Builtin.firstCells]
end
theorem WF (w:World) (s:hz) (B:a8 w (gb s)) (b:rO s) (A:Option Addr) (n c:Nat) (L:List aY) (d:Rd cf w (λk=>k∉aB (gb s)) A n c L) (U:n≤1000000):Calls prog 51 [ptr s.g,.slice A n c].toArray w (WD s w):=by
 have x:=b.len
 have V:=b.most
 have W:=d.len
 refine bI func51 ntmps51 B ?_;refine xt ?_;refine aj (λC=>?_) (λC=>?_);refine aK ?_;intro f a;exact aN (1,s) ⟨rfl,rfl,b⟩ a;refine bp ?_;refine b2 (ι:=Nat) (λi=>[(0,ptr s.g),(1,.slice A n c),(19,.slice A n c),(20,.int .i64 (n:Int)),(21,.int .i64 (i:Int))]) (λ_=>af w (aB (gb s)) (gb s)) (λi=>i≤n) (λi=>n - i) ?_ ?_;exact λw' m=>⟨0,bP _,(ec rfl rfl rfl rfl rfl),m⟩
 intro i hi;refine al ?_;refine aj (λD=>?_) (λD=>?_);obtain⟨v,G⟩ : ∃v,L[i]? = some v:=⟨L[i]'aa,bE _⟩;obtain⟨bY,H,I,J⟩:=d.at_ G;refine al ?_;refine bC (q:=i) dD rfl rfl rfl H rfl aa ?_;refine cx (vs:=v.enc) eg rfl rfl rfl (λX x j u K=>x.cu (J j u K) (by simp only[block_add];exact I)) ?_;refine ar ?_;intro Y Z Za;refine al ?_;refine ao rfl EH rfl (λM Zb=>J4 M v) ?_;refine ah ?_;refine b1 rfl (λo=>?_) (λo=>?_);simp only[bZ] at o
 refine bx ?_;intro f a;exact aN (1,s) ⟨rfl,rfl,b⟩ a;simp only[bZ] at o
 refine aC ?_;exact bi (i+1) aa aa bR (λ_ h=>h.ax ae);have Zc:i=n:=by omega
 have N:n=s.p.l.length:=by omega
 rcases gw n with y | y
 refine bx ?_;refine WE dD y rfl rfl rfl ?_;refine aJ ?_;intro f a;exact aN (0,s) ⟨rfl,rfl,b⟩ a;refine bx ?_;refine jd (e:=35) (sz:=2) (v:=s.p.val) bJ (λO Zd P Ze _ _ Q=>?_);have r:s.p.A=O:=by injection P
 obtain⟨z,t⟩:=Q aa;refine D5 (E:=cf) (g:=z) (src:=L) (F:=λk=>k∉aB (gb s)) dD rfl (by rw[←t,←r];rfl) rfl (by rw[←t,←r];exact ew) (λw' m=>d.ext m.ext (λ_ h=>h)) aa ?_;refine aJ ?_;intro f a;have R:cf.all L++(cf.all s.p.l).drop (n*cf.sz)=cf.all L:=by rw[ol (by rw[cf.dI,N];exact bW _),eu]
 have S:L.length=s.p.l.length:=by omega
 have T:s.p.A=some ⟨z,0,none⟩:=r.trans t
 rw[R] at a
 refine aP.bQ (0,⟨s.g,⟨s.p.A,s.p.c,L⟩,s.most⟩) ⟨rfl,rfl,by show ((L.length:Nat):Int)≤s.most;omega,b.most⟩ rfl ?_;simp only[gb,hz.an,CO,ee.val,ee.au,Mq.au,S,T] at a ⊢
 exact a.ax ae
end
end Go.Proofs.YtlgnfdodnhokjaaGreatDoor.Mq
namespace Go.Proofs.YtlgnfdodnhokjaaGreatDoor.Mq
open Go Go.RowKit Go.Proofs
section
section
variable {P:Program} {n:Nat} {ops:Array Oper} {Q:cq} {rest:List Oper} {l:Fr} {d:Nat} {ty:TypeId} {pos:String} {a7:Array Edge}
variable {b:World} {S:List Nat} {cs:List Chunk}
theorem J6 {α:Type} {E:bA α} {x y:Operand} {t e B:Nat} {z:List Value} {g j m c f c1:Nat} {xs:List Value} {a:α} {te:TypeId} {cs':List Chunk} (r:c6 P t e E.sz B z) (ak:Nat.blt d n=true)
 (C:ba l x=some (.slice (some ⟨g,0,none⟩) j c)) (D:ba l y=some (.slice (some ⟨f,0,none⟩) 1 c1)) (F:Has cs (aD f (E.enc a) te)) (G:j<m) (U:m≤c)
 (s:bn cs (own e E.sz (.slice (some ⟨g,0,none⟩) m c) m xs) (own e E.sz (.slice (some ⟨g,0,none⟩) m c) m (df xs (j*E.sz) (E.enc a))) cs')
 (h:az P n ops Q rest ((d,.slice (some ⟨g,0,none⟩) (j+1) c)::l) (af b S cs')):
 az P n ops Q (⟨some d,.call ⟨.builtin .append,#[x,y],#[t,t]⟩,ty,pos,a7,none⟩::rest) l (af b S cs):=by
 obtain⟨i,fs,H,V,W,I,X⟩:=r.inf;refine hD ak λY w v q=>?_
 have J:=q.has s.has
 have K:xs.length=m*E.sz:=J.1
 have A: (j+1)*E.sz≤m*E.sz:=k1 _ G
 rw[oy] at A
 obtain⟨w',L,M⟩:=q.so (P:=P) (xs:=xs) (o:=j*E.sz) (vs:=E.enc a) (by rw[E.len,K];exact A) (E.jc a) s;have N: (Builtin.firstCells E.sz 1 (.slice (some ⟨f,0,none⟩) 1 c1)).run P w= .ok (E.enc a).toArray w:=by
  have:=run_loadCellsFrom (P:=P) (w:=w) (p:=⟨f,0,none⟩) (E.enc a) 0 #[] (λk u O=>by
   have R:=q.eP F O
   rw[Addr.add_lit];simpa using R)
  rw[E.len] at this
  simpa [Builtin.firstCells,loadCells] using this
 refine⟨.slice (some ⟨g,0,none⟩) (j+1) c,w',?_,h.at M⟩;have T:j+1≤c:=by omega
 simp[execOp,resolve,invoke,builtin,v x _ C,v y _ D,Builtin.append_,run_underlying r.fe,Builtin.lenOf,run_sizeOf H,I,N,T,Addr.add_lit,L]
end
theorem CQ {e sz m c j:Nat} {A:Option Addr} {xs:List Value} {w:World} (d:j≤m) (h: (own e sz (.slice A m c) m xs).pred w): (own e sz (.slice A j c) j (xs.take (j*sz))).pred w:=by
 obtain⟨f,i⟩:=h;have k:j*sz≤m*sz:=k1 _ d
 refine⟨by rw[dl,f];omega,?_⟩;rcases i with ⟨l,u⟩ | ⟨g,cap,am,n,o,p,v,q,r,s⟩
 left
 injection l with a t b
 have:j=0:=by omega
 subst this;exact⟨by rw[a,b],rfl⟩;right
 injection n with a t b
 refine⟨g,cap,am,by rw[a,b],o,p,aa,q,r,?_⟩;rw[←s,List.take_take,iG k]
end
section
def gL (e:TypeId) (sz:Nat) (A:Option Addr) (m c:Nat) (xs:List Value):Chunk where
 ch:=(Value.slice A m c).ownBlock.toList
 pred w:=xs.length=m*sz∧((A=none∧m=0∧c=0)∨ ∃g o am,A=some ⟨g,o,none⟩∧w.heap[g]? = some (.cells am e (0,0))∧m≤c∧c≤maxLen∧am.size=o+c*sz∧(am.toList.drop o).take (m*sz)=xs)
 low w h k a:=by
  rcases h.2 with ⟨rfl,_⟩ | ⟨g,o,am,rfl,b,_⟩
  simp[Value.ownBlock] at a
  simp[Value.ownBlock] at a;subst a;exact (lH.1 b).1
 loc w w' h ai:=by
  refine⟨ai.1,?_⟩
  rcases ai.2 with d | ⟨g,o,am,rfl,b,rest⟩
  exact .inl d
  exact .inr ⟨g,o,am,rfl,by rw[h g (by simp[Value.ownBlock])];exact b,rest⟩
theorem WG (e sz:Nat) (w:World): (gL e sz none 0 0 []).pred w:=⟨by simp,.inl ⟨rfl,rfl,rfl⟩⟩
theorem WH (e sz:Nat) (A:Option Addr) (m c:Nat) (xs:List Value): (gL e sz A m c xs).ch.Nodup:=by
 show (Value.slice A m c).ownBlock.toList.Nodup
 cases (Value.slice A m c).ownBlock <;> simp
theorem WI {e:Nat} {α:Type} {E:bA α} {A:Option Addr} {m c:Nat} {l:List α} {w:World} (h: (gL e E.sz A m c (E.all l)).pred w) (r:l.length=m) {bY:Addr} (d:A=some bY) {k:Nat} {a:α} (i:l[k]? = some a):
 ∀j u,(E.enc a)[j]? = some u→w.cell? ((bY.add (k*E.sz)).add j)=some u:=by
 intro j u n;rcases h.2 with ⟨f,_⟩ | ⟨g,o,am,f,p,s,t,v,q⟩
 rw[f] at d;cases d
 rw[f] at d;cases d
 have b:=E.lQ i n
 rw[←q,iD] at b
 split at b
 rw[mB] at b
 rw[Addr.add_lit,Addr.add_lit,cell_of_row w g _ am e (0,0) p,qO];simpa using b
 cases b
theorem yV {e sz:Nat} {A:Option Addr} {m c:Nat} {xs:List Value} {w:World} (h: (gL e sz A m c xs).pred w):m≤c∧c≤maxLen∧(0<m→ ∃g o,A=some ⟨g,o,none⟩):=by
 rcases h.2 with ⟨a,i,b⟩ | ⟨g,o,am,a,j,d,f,_⟩
 exact⟨aa,by rw[b];exact bP _,λh=>by omega⟩;exact⟨d,f,λ_=>⟨g,o,a⟩⟩
theorem WJ {e sz:Nat} {A:Option Addr} {m c:Nat} {xs:List Value} {w:World} (l:1≤m) (h: (gL e sz A m c xs).pred w): (gL e sz (A.map (·.add (1*sz))) (m - 1) (c - 1) (xs.drop sz)).pred w:=by
 obtain⟨m,rfl⟩ : ∃k,m=k+1:=⟨m - 1,aa⟩;obtain⟨a,d⟩:=h;rw[oy] at a
 refine⟨by rw[fJ,a,uw,uw],?_⟩;rcases d with ⟨_,b,_⟩ | ⟨g,o,am,b,f,n,p,i,j⟩
 omega
 obtain⟨c,rfl⟩ : ∃k,c=k+1:=⟨c - 1,aa⟩;rw[oy] at i
 refine .inr ⟨g,o+sz,am,by rw[b];simp[Addr.add_lit],f,aa,aa,by rw[uw];omega,?_⟩;rw[←j,uw,oy,List.drop_take,lJ,uw]
theorem J7 (e sz:Nat) (A:Option Addr) (m c b c' k:Nat) (xs dh:List Value): (gL e sz (A.map (·.add k)) m c xs).ch=(gL e sz A b c' dh).ch:=by
 show (Value.slice (A.map (·.add k)) m c).ownBlock.toList=(Value.slice A b c').ownBlock.toList
 cases A with
 | none=>rfl
 | some a=>simp[Value.ownBlock,block_add]
section
variable {b:World} {S:List Nat} {cs cs':List Chunk} {w:World} {c c':Chunk}
theorem af.conv (h:af b S cs w) (a:bn cs c c' cs') (d:c'.ch=c.ch) (ai:c.pred w→c'.pred w):af b S cs' w:=by
 refine h.ie a (Ext.refl _ _) (ai (h.has a.has)) (λk e=> .inl (d▸e)) ?_;rw[d];obtain⟨l1,hl,rfl,_⟩:=a.split;have:=h.nodup
 rw[iI,fq,fW,fW] at this
 exact this.2.1.1
theorem WK {α:Type} {l:List α} {k:Nat} {c:α} (a:l[k]? = some c):List.Perm l (c::l.eraseIdx k):=by
 have b:=(cK.1 a).1
 have d:=(cK.1 a).2
 conv=>lhs;rw[←iF k l]
 rw[lK b,d,List.eraseIdx_eq_take_drop_succ];exact ov
theorem WL {α:Type} {l:List α} {k:Nat} (c:α) (a:k<l.length):List.Perm (c::l.eraseIdx k) (l.set k c):=by
 rw[qN,aw a,List.eraseIdx_eq_take_drop_succ];exact List.perm_middle.symm
theorem af.pick {l:List Chunk} {k:Nat} (h:af b S (aR l::cs) w) (a:l[k]? = some c):af b S (c::aR (l.eraseIdx k)::cs) w:=by
 have d:af b S (c::(l.eraseIdx k++cs)) w:=h.lb.perm ((WK a).append_right cs)
 have e:af b S (l.eraseIdx k++c::cs) w:=d.perm List.perm_middle.symm
 exact (e.close' (l:=l.eraseIdx k)).perm (List.Perm.swap _ _ _)
theorem af.J8 {l:List Chunk} {k:Nat} (h:af b S (c::aR (l.eraseIdx k)::cs) w) (a:k<l.length):af b S (aR (l.set k c)::cs) w:=by
 have d:af b S (aR (l.eraseIdx k)::c::cs) w:=h.perm (List.Perm.swap _ _ _)
 have e:af b S (l.eraseIdx k++c::cs) w:=d.lb
 have ai:List.Perm (l.eraseIdx k++c::cs) (l.set k c++cs):=List.perm_middle.trans ((WL c a).append_right cs)
 exact (e.perm ai).close'
theorem af.J9 {A:Option Addr} {m c1:Nat} {e sz:Nat} {xs:List Value} (h:af b S cs w) (a:Has cs (gL e sz A m c1 xs)):m≤c1∧c1≤maxLen∧(0<m→ ∃g o,A=some ⟨g,o,none⟩):=yV (h.has a)
end
section
variable {P:Program} {n:Nat} {ops:Array Oper} {Q:cq} {rest:List Oper} {l:Fr} {d:Nat} {ty:TypeId} {pos:String} {a7:Array Edge}
variable {b:World} {S:List Nat} {cs cs':List Chunk}
theorem CR {c c':Chunk} (a:bn cs c c' cs') (d:c'.ch=c.ch) (ai: ∀w,c.pred w→c'.pred w) (h:az P n ops Q rest l (af b S cs')):az P n ops Q rest l (af b S cs):=
 gR h (Sub.refl _) (λw e=>e.conv a d (ai w))
theorem CS {a:Code} {L:List Chunk} {c:Chunk} {k:Nat} (d:bw cs (aR L) cs') (e:L[k]? = some c) (h:dc P n a Q l (af b S (c::aR (L.eraseIdx k)::cs'))):dc P n a Q l (af b S cs):=
 cH h (Sub.refl _) (λ_ f=>(f.perm d.perm).pick e)
theorem v7 {L:List Chunk} {c:Chunk} {k:Nat} (a:bw cs (aR L) cs') (d:L[k]? = some c) (h:az P n ops Q rest l (af b S (c::aR (L.eraseIdx k)::cs'))):az P n ops Q rest l (af b S cs):=
 gR h (Sub.refl _) (λ_ e=>(e.perm a.perm).pick d)
theorem WM {A:Option Addr} {m c e sz:Nat} {xs:List Value} (d:Has cs (gL e sz A m c xs)) (h:m≤c∧c≤maxLen∧(0<m→ ∃g o,A=some ⟨g,o,none⟩)→az P n ops Q rest l (af b S cs)):az P n ops Q rest l (af b S cs):=λw a=>h (a.J9 d) w a
theorem yW {a:Code} {A:Option Addr} {m c e sz:Nat} {xs:List Value} (f:Has cs (gL e sz A m c xs)) (h:m≤c∧c≤maxLen∧(0<m→ ∃g o,A=some ⟨g,o,none⟩)→dc P n a Q l (af b S cs)):dc P n a Q l (af b S cs):=λw d=>h (d.J9 f) w d
theorem WN {w:World} {t ty e sz E:Nat} {z:List Value} (f:c6 P t e sz E z) {A:Option Addr} {m c:Nat} {xs:List Value} (h: (gL e sz A m c xs).pred w) {a:Addr} {c1:Nat} {news:List Value} (b:news.length=sz)
 (s: ∀j u,news[j]? = some u→w.cell? (a.add j)=some u) (O:aI news) (F:m+1≤maxLen) (G: (m+1)*E≤140737488355328):
 ∃p c' w',(Builtin.append_ #[t,t] ty #[.slice A m c,.slice (some a) 1 c1]).run P w= .ok (.slice p (m+1) c') w'∧(gL e sz p (m+1) c' (xs++news)).pred w'∧w.grownBy w' (Value.slice A m c).ownBlock∧
  ((Value.slice p (m+1) c').ownBlock=(Value.slice A m c).ownBlock∨(Value.slice p (m+1) c').ownBlock=some w.heap.size):=by
 obtain⟨i,fs,x,H,Q,R,S⟩:=f.inf;subst R;have T:fs.cells.size=i.size:=by rw[←lI,Q,f.len]
 have q: (xs++news).length=(m+1)*i.size:=by rw[b6,h.1,b,oy]
 have U: ((m+1 :Nat):Int)≤9223372036854775807:=by simp only[maxLen] at F;omega
 have I: ∀d,d<m+1→(gL e i.size (some ⟨w.heap.size,0,none⟩) (m+1) (grownCap w (m+1) d e) (xs++news)).pred (w.drew.alloc (.cells (xs.toArray++news.toArray++Builtin.zeroCells fs.cells (grownCap w (m+1) d e - (m+1))) e)):=by
  intro d Ze;have V:=grownCap_ge w (m+1) d e
  have y:=grownCap_le_maxLen w (m+1) d e F
  refine⟨q,.inr ⟨w.heap.size,0,_,rfl,heap_alloc_new w.drew _,V,y,?_,?_⟩⟩;simp only[Array.size_append,List.size_toArray,size_zeroCells,T,h.1,b,dE];rw[←oy,←ja];congr 1
  omega
  simp only[Array.toList_append,ea,nf];rw[←ea,←q];exact List.take_left
 have J: ∀(o:Obj) (row:Option Nat),w.grownBy (w.drew.alloc o) row:=λo row=>⟨rfl,rfl,rfl,by simp,λk B _=>heap_alloc_old w.drew o B⟩
 rcases h.2 with ⟨rfl,rfl,rfl⟩ | ⟨g,o,am,rfl,K,Zf,y,r,L⟩
 have W:xs=[]:=iC (by simpa using h.1)
 subst W;have C:=Go.run_append_nil (P:=P) (w:=w) t ty e i fs f.fe x H a 1 c1 news (by rw[b,Nat.one_mul]) s aa aa (by rw[dE] at G;omega)
 have M:=I 0 aa
 simp only[iA,dE] at M
 exact⟨_,_,_,C,M,J _ _,.inr rfl⟩;by_cases D:m+1≤c
 have X: (m+1)*i.size≤c*i.size:=k1 _ D
 rw[oy] at X
 have Y:=run_firstCells_some (P:=P) (w:=w) i.size 1 a 1 c1 news (by rw[b,Nat.one_mul]) s
 have Z:w.heap[g]? = some (.cells am.toList.toArray e (0,0)):=by simpa using K
 obtain⟨w',Za,N,l⟩:=zl (P:=P) news am.toList w (o+m*i.size) 0 Z (by rw[b,lI,r];omega) O;rw[Nat.add_zero] at N
 have Zb: (o+m*i.size)+news.length≤am.toList.length:=by rw[b,lI,r];omega
 refine⟨some ⟨g,o,none⟩,c,w',?_,⟨q,.inr ⟨g,o,_,rfl,N,D,y,?_,?_⟩⟩,?_,.inl rfl⟩;simp[Builtin.append_,run_underlying f.fe,sizeOf,typeInfo,x,Builtin.lenOf,D,Y,Addr.add_lit,Za]
 rw[List.size_toArray,DT,lI,r];show ((df am.toList (o+m*i.size) news).drop o).take ((m+1)*i.size)=xs++news
 rw[je _ Zb,ea,List.drop_append_of_le_length (by rw[dl,lI,r];omega),List.drop_take,show o+m*i.size - o=m*i.size by omega,L,←ea,←q];exact List.take_left;exact⟨l.os,l.tape,l.output,l.size,λk B Zc=>l.block k B (by simpa [Value.ownBlock] using Zc)⟩;have Zd: ∀j v,xs[j]? = some v→w.cell? ((⟨g,o,none⟩ :Addr).add j)=some v:=by
  intro j v n;rw[Addr.add_lit,cell_of_row w g _ am e (0,0) K];rw[←L,iD] at n
  split at n
  rw[mB] at n;simpa using n
  cases n
 have C:=run_append_grow (P:=P) (w:=w) t ty e i fs f.fe x H ⟨g,o,none⟩ m c xs h.1 Zd a 1 c1 news (by rw[b,Nat.one_mul]) s aa U (growslice_fits aa (by rw[S];exact G))
 exact⟨_,_,_,C,I c aa,J _ _,.inr rfl⟩
theorem WO {x y:Operand} {t e sz p:Nat} {z:List Value} {A:Option Addr} {m c:Nat} {xs:List Value} {i c1:Nat} {vs:List Value} {te:TypeId} {cs':Option Addr→Nat→List Chunk} (s:c6 P t e sz p z) (ak:Nat.blt d n=true)
 (v:ba l x=some (.slice A m c)) (B:ba l y=some (.slice (some ⟨i,0,none⟩) 1 c1)) (C:Has cs (aD i vs te)) (D:vs.length=sz) (E:aI vs) (F:m+1≤maxLen) (G: (m+1)*p≤140737488355328)
 (q: ∀f c',bn cs (gL e sz A m c xs) (gL e sz f (m+1) c' (xs++vs)) (cs' f c'))
 (h: ∀f c',az P n ops Q rest ((d,.slice f (m+1) c')::l) (af b S (cs' f c'))):
 az P n ops Q (⟨some d,.call ⟨.builtin .append,#[x,y],#[t,t]⟩,ty,pos,a7,none⟩::rest) l (af b S cs):=by
 refine hD ak λM w r o=>?_
 obtain⟨f,c',w',H,I,J,K⟩:=WN (P:=P) (ty:=ty) s (o.has (q A c).has) (a:=⟨i,0,none⟩) (c1:=c1) D (λj u L=>by
  rw[Addr.add_lit];exact o.eP C (by simpa using L)) E F G
 refine⟨_,w',?_,(h f c').at (o.ie (q f c') (Ext.uz J) I ?_ (WH _ _ _ _ _ _))⟩;simp[execOp,resolve,invoke,builtin,r x _ v,r y _ B,H]
 intro k g;replace g: (Value.slice f (m+1) c').ownBlock=some k:=jb.1 g
 rcases K with h | h
 exact .inl (jb.2 (h▸g));rw[h] at g;cases g;exact .inr (bW _)
theorem J_ {H:World→Prop} {x:Operand} {hi:Option Operand} {t e len sz:Nat} {g o:Nat} (m:Nat) (b:P.underlying t=some (.array len e)) (c: ∀w,(Go.sizeOf e).run P w= .ok sz w) (ak:Nat.blt d n=true) (f:ba l x=some (.pointer (some ⟨g,o,none⟩)))
 (j: (∃q u,hi=some q∧ba l q=some (.int .i64 u)∧u=(m:Int))∨hi=none∧m=len) (k:m≤len)
 (h:az P n ops Q rest ((d,.slice (some ⟨g,o,none⟩) m len)::l) H):az P n ops Q (⟨some d,.slice t x none hi none,ty,pos,a7,none⟩::rest) l H:=by
 refine dd _ ak (λr w a=>?_) h;have i: (⟨g,o,none⟩ :Addr).add 0=⟨g,o,none⟩:=by rw[Addr.add_lit];rfl
 rcases j with ⟨q,u,rfl,p,rfl⟩ | ⟨rfl,rfl⟩
 simp[execOp,a x _ f,a q _ p,Instr.sliceAt,run_underlying b,Instr.sureAddr,Instr.sliceBounds,Instr.sliceBound,asIntOf,c,k,i]
 simp[execOp,a x _ f,Instr.sliceAt,run_underlying b,Instr.sureAddr,Instr.sliceBounds,c,i]
theorem Ka {α:Type} {E:bA α} {x y:Operand} {t e L:Nat} {z:List Value} {g o m c:Nat} {xs:List Value} {te:TypeId} {A:Option Addr} {k c':Nat} {src:List α} {F:Nat→Prop} {cs':List Chunk} (r:Nat) (M:r=min k m) (f:c6 P t e E.sz L z) (ak:Nat.blt d n=true)
 (N:ba l x=some (.slice (some ⟨g,o,none⟩) m c)) (O:ba l y=some (.slice A k c')) (a:bn cs (aD g xs te) (aD g (df xs o (E.all (src.take r))) te) cs')
 (R: ∀w,af b S cs w→Rd E w F A k c' src) (Zg:o+m*E.sz≤xs.length)
 (h:az P n ops Q rest ((d,.int .i64 (r:Int))::l) (af b S cs')):
 az P n ops Q (⟨some d,.call ⟨.builtin .copy,#[x,y],#[t,t]⟩,ty,pos,a7,none⟩::rest) l (af b S cs):=by
 obtain⟨i,fs,T,Zh,Zi,U,Zj⟩:=f.inf;refine hD ak λZk w B C=>?_
 have q:=R w C
 have V:r≤k:=by omega
 have Zl:r*E.sz≤m*E.sz:=k1 _ aa
 have s: (E.all (src.take r)).length=r*E.sz:=by rw[E.dI,dl,q.len,iG V]
 obtain⟨w',W,X⟩:=C.store (P:=P) (o:=o) (vs:=E.all (src.take r)) (by rw[s];omega) (E.wI _) a;have Y:Nat.min k m=r:=M.symm
 have Z: (Builtin.firstCells E.sz r (.slice A k c')).run P w= .ok (E.all (src.take r)).toArray w:=by
  rcases gw r with D | D
  subst D;cases A <;> simp[Builtin.firstCells,bA.all,loadCells,loadCellsFrom]
  obtain⟨bY,rfl,_,Za⟩:=q.cells aa;have:=run_loadCellsFrom (P:=P) (w:=w) (p:=bY) (E.all (src.take r)) 0 #[] (λj u a=>by
   have Zb:j<r*E.sz:=by
    have:=(cK.1 a).1
    rwa [s] at this
   have G:0<E.sz:=f.pos
   have Zc:j/E.sz<r:=(Nat.div_lt_iff_lt_mul G).2 Zb
   have Zd:=iH j G
   have Ze:=Nat.div_add_mod j E.sz
   have Zf:j/E.sz<src.length:=by rw[q.len];omega
   obtain⟨a0,H⟩ : ∃a0,src[j/E.sz]? = some a0:=⟨src[j/E.sz],bE Zf⟩;obtain⟨I,J⟩ : ∃I,(E.enc a0)[j%E.sz]? = some I:=⟨(E.enc a0)[j%E.sz]'(by rw[E.len];exact Zd),bE _⟩;have v:=E.lQ (l:=src.take r) (by rw[iD,aw Zc];exact H) J
   have K:j/E.sz*E.sz+j%E.sz=j:=by rw[qQ];exact Ze
   rw[K,a] at v
   simp only[dA] at v
   subst v;have:=Za _ _ _ _ H J
   rw[add_add,K] at this
   rw[dE];exact this)
  rw[s] at this
  simpa [Builtin.firstCells,loadCells] using this
 refine⟨.int .i64 (r:Int),w',?_,h.at X⟩;simp[execOp,resolve,invoke,builtin,B x _ N,B y _ O,Builtin.copy_,run_underlying f.fe,Builtin.lenOf,run_sizeOf T,U,Y,Z,goInt,W]
end
end
end Go.Proofs.YtlgnfdodnhokjaaGreatDoor.Mq
