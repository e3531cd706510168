/- part 32 of the proof -/
import Derived.Test.YtoghoobfpcadbaaGreatDoorQ31
import Derived.Shelf.Small.Bits
namespace Go.Proofs.YtoghoobfpcadbaaGreatDoor.Mq
open Go Go.RowKit Go.Proofs Tryz
abbrev pg (g:Nat) (most:Int):cg:=⟨g,0,l5,l5,l5,0,false,false,most,0,⟨0,0,0,0,0⟩⟩
theorem VP {g:Nat} {n:Int} (h:1≤n∧n≤65536):fG (pg g n):=⟨by simp,by simp,by simp;omega,h,⟨by simp,by simp⟩,by simp⟩
theorem VQ (w:World) (n:Int) (h:1≤n∧n≤65536):Calls prog 60 [.int .i64 n].toArray w
 (aO (λg:Nat=> .tuple #[gq g,.int .i64 0]) [] (λg=>c_ (pg g n)) (λ_=>True) w):=by
 refine aW func60 ntmps60 ?_;refine bB ?_;refine aX 6 rfl (λa=>?_) (λa=>?_);have d:=a1 a
 refine cI ?_;intro c b
 (exfalso;omega)
 have d:=bc a
 refine aD ?_;refine aj (λaK=>?_) (λaK=>?_);refine aJ ?_;intro c b
 (exfalso;omega)
 refine aD ?_;intro e f i;refine al ?_;intro c b;exact aO.bQ e aT rfl (b.BA ae)
def yH (rows cols lines:Int):e7:=⟨l8 rows cols lines,l8 rows cols 0,false,dz.pa,[],[],[]⟩
theorem Jk {s:bl} {rows cols lines:Int} (b:1≤rows∧rows≤100) (c:2≤cols∧cols≤100) (d:0≤lines∧lines≤100) (h:dT s∧s.abs=l8 rows cols lines):dW s:=by
 refine⟨h.1,by rw[h.2];exact Tn ⟨b.1,aa⟩ ⟨c.1,aa⟩ ⟨d.1,aa⟩,?_,?_,?_⟩;have a: (b0 s.ap.s.l).length=_:=aV (λq=>q.bE.cJ.length) h.2
 rw[b0,cT] at a
 rw[a];simp only[l8,o6,hd];omega
 have a:s.ap.cols=cols:=aV (λq=>q.bE.cols) h.2
 omega
 have a:s.ap.r.room=lines:=aV (λq=>q.bE.room) h.2
 omega
theorem Jl {s:bl} {rows cols lines:Int} (h:s.abs=l8 rows cols lines):s.ap.be.l=[]:=aV (λq=>q.bE.gd) h
set_option maxHeartbeats 1000000 in
theorem VR [Inhabited bN] (w:World) (rows cols lines n:Int) (c:1≤rows∧rows≤100) (b:2≤cols∧cols≤100) (h:0≤lines∧lines≤100) (k:1≤n∧n≤65536):Calls prog 29 [.int .i64 rows,.int .i64 cols,.int .i64 lines,.int .i64 n].toArray w
 (aO (λi:Nat × Nat × bK=> .tuple #[ptr i.1,.int .i64 0]) [] (λi=>[aU (c_ (pg i.2.1 n)),eE i.1 i.2.1 i.2.2,aU (aP i.2.2.am),aU (aP i.2.2.bk),i.2.2.buf.au,i.2.2.aG.au]) (λi=>cp i.1 lines 0 i.2.2∧i.2.2.abs=yH rows cols lines) w):=by
 refine aW func29 ntmps29 ?_;refine bp ?_;refine aY (l0:=[]) aB.nil rfl Eh rfl (λa _=>HW a rows cols lines ⟨c.1,aa⟩ ⟨b.1,aa⟩ ⟨h.1,aa⟩) (λs1 d=>?_);refine aR ?_;refine aY (l0:=[]) aB.nil rfl Mx rfl (λa _=>VQ a n k) (λap _=>?_);refine bI ?_;refine aX 30 rfl (λe=>?_) (λe=>?_);have m:=a1 e
 refine cI ?_;intro j f
 (exfalso;omega)
 have m:=bc e
 refine aD ?_;refine aj (λaK=>?_) (λaK=>?_);refine aJ ?_;intro j f
 (exfalso;omega)
 refine al ?_;refine aY (l0:=[]) aB.nil rfl Eh rfl (λa _=>HW a rows cols 0 ⟨c.1,aa⟩ ⟨b.1,aa⟩ ⟨aZ,aZ⟩) (λs2 g=>?_);refine bI ?_;refine ao rfl zE rfl (λa b=>dz.vb a) ?_;refine aq ?_;intro o p s;refine al ?_;intro j f;exact aO.bQ (o,ap,⟨s1,s2,false,dz.pa,[],none,⟨none,0,[]⟩,⟨none,0,[]⟩⟩) ⟨⟨Jk c b h d,Jk c b ⟨aZ,aZ⟩ g,(aV (λq=>q.bE.room) d.2 :s1.ap.r.room=lines),.inl rfl,by simp,by rw[Jl d.2,Jl g.2];simp,by simp,by simp,show dz.pa<4294967296 by decide⟩,by simp only[bK.abs,d.2,g.2];rfl⟩ rfl (((((f.close (l:=aP s2) ae).close (l:=c_ (pg ap n)) ae).close (l:=aP s1) ae).eO 5 cD).eO 169 lv |>.aw ae)
abbrev dR (n:Int):Prop:=0≤n∧n≤1099511627776
abbrev dk (p:bh):Prop:=dR p.row∧dR p.dp
abbrev d9 (s:ec):Prop:=(s.kind=0∨s.kind=1∨s.kind=2)∧dR s.at_∧dR s.n∧0<s.n
def h_ (s:ec):Int:=if s.kind=2 then 0 else s.at_
def lz (p:bh) (s:ec):bh:=
 if ¬dk p∨ ¬d9 s∨p.row<h_ s then p else
 if s.kind=0 then ⟨p.row+s.n,p.dp⟩ else
 if p.row<h_ s+s.n then ⟨h_ s,0⟩ else ⟨p.row - s.n,p.dp⟩
def qo (p:bh) (s:ec):Bool:=decide (dk p∧d9 s∧s.kind≠0∧h_ s≤p.row∧p.row<h_ s+s.n)
def hz (a b:bh):bh:=if hO a b=true then b else a
abbrev ee (p:bh):Value:= .agg p.enc.toArray
abbrev rC (s:ec):Value:= .agg s.enc.toArray
theorem qp (w:World) (n:Int):Calls prog 185 [.int .i64 n].toArray w (Pure (.bool (decide (dR n))) w):=by
 refine aW func185 ntmps185 ?_;refine aR ?_;refine aX 5 rfl (λa=>?_) (λa=>?_);have c:=a1 a
 refine aR ?_;intro d b;exact⟨by rw[Ending.returned.injEq,Value.bool.injEq];symm;(rw[hf];omega),b.ext⟩;have c:=bc a
 refine aL ?_;intro d b;exact⟨by rw[Ending.returned.injEq,Value.bool.injEq];symm;(rw[e1];omega),b.ext⟩
theorem Jm (w:World) (p:bh):Calls prog 187 [ee p].toArray w (Pure (.bool (decide (dk p))) w):=by
 refine aW func187 ntmps187 ?_;refine ah ?_;intro g h i;refine aD ?_;refine ao rfl pI rfl (λa d=>qp a _) ?_;refine ar ?_;refine aX 6 rfl (λb=>?_) (λb=>?_);have e:=a1 b
 refine ax ?_;refine ao rfl pI rfl (λa d=>qp a _) ?_;refine al ?_;intro f c;exact⟨by rw[Ending.returned.injEq,Value.bool.injEq];symm;simp only[dR,dk,d9] at *;(rw[hf];omega),c.ext⟩;have e:=bc b
 refine aJ ?_;intro f c;exact⟨by rw[Ending.returned.injEq,Value.bool.injEq];symm;simp only[dR,dk,d9] at *;(rw[e1];omega),c.ext⟩
theorem yI (w:World) (s:ec):Calls prog 116 [rC s].toArray w (Pure (.bool (decide (d9 s))) w):=by
 refine aW func116 ntmps116 ?_;refine ah ?_;intro x y z;refine aJ ?_;refine aX 6 rfl (λe=>?_) (λe=>?_);have m:=a1 e
 refine cI ?_;refine ao rfl pI rfl (λb d=>qp b _) ?_;refine aq ?_;refine aX 21 rfl (λaK=>?_) (λaK=>?_);have n:=a1 aK
 refine ax ?_;refine ao rfl pI rfl (λb d=>qp b _) ?_;refine aq ?_;refine aX 26 rfl (λf=>?_) (λf=>?_);have o:=a1 f
 refine bB ?_;intro c a;exact⟨by rw[Ending.returned.injEq,Value.bool.injEq];symm;simp only[dR,dk,d9] at *;(rw[hf];omega),a.ext⟩;have o:=bc f
 refine aJ ?_;intro c a;exact⟨by rw[Ending.returned.injEq,Value.bool.injEq];symm;simp only[dR,dk,d9] at *;(rw[e1];omega),a.ext⟩;have n:=bc aK
 refine b_ ?_;intro c a;exact⟨by rw[Ending.returned.injEq,Value.bool.injEq];symm;simp only[dR,dk,d9] at *;(rw[e1];omega),a.ext⟩;have m:=bc e
 refine aL ?_;refine aX 11 rfl (λg=>?_) (λg=>?_);have p:=a1 g
 refine aR ?_;refine ao rfl pI rfl (λb d=>qp b _) ?_;refine aq ?_;refine aX 21 rfl (λh=>?_) (λh=>?_);have q:=a1 h
 refine ax ?_;refine ao rfl pI rfl (λb d=>qp b _) ?_;refine aq ?_;refine aX 26 rfl (λi=>?_) (λi=>?_);have r:=a1 i
 refine bB ?_;intro c a;exact⟨by rw[Ending.returned.injEq,Value.bool.injEq];symm;simp only[dR,dk,d9] at *;(rw[hf];omega),a.ext⟩;have r:=bc i
 refine aJ ?_;intro c a;exact⟨by rw[Ending.returned.injEq,Value.bool.injEq];symm;simp only[dR,dk,d9] at *;(rw[e1];omega),a.ext⟩;have q:=bc h
 refine b_ ?_;intro c a;exact⟨by rw[Ending.returned.injEq,Value.bool.injEq];symm;simp only[dR,dk,d9] at *;(rw[e1];omega),a.ext⟩;have p:=bc g
 refine aL ?_;refine aX 16 rfl (λj=>?_) (λj=>?_);have t:=a1 j
 refine ax ?_;refine ao rfl pI rfl (λb d=>qp b _) ?_;refine aq ?_;refine aX 21 rfl (λk=>?_) (λk=>?_);have u:=a1 k
 refine ax ?_;refine ao rfl pI rfl (λb d=>qp b _) ?_;refine aq ?_;refine aX 26 rfl (λl=>?_) (λl=>?_);have v:=a1 l
 refine bB ?_;intro c a;exact⟨by rw[Ending.returned.injEq,Value.bool.injEq];symm;simp only[dR,dk,d9] at *;(rw[hf];omega),a.ext⟩;have v:=bc l
 refine aJ ?_;intro c a;exact⟨by rw[Ending.returned.injEq,Value.bool.injEq];symm;simp only[dR,dk,d9] at *;(rw[e1];omega),a.ext⟩;have u:=bc k
 refine b_ ?_;intro c a;exact⟨by rw[Ending.returned.injEq,Value.bool.injEq];symm;simp only[dR,dk,d9] at *;(rw[e1];omega),a.ext⟩;have t:=bc j
 refine eM ?_;intro c a;exact⟨by rw[Ending.returned.injEq,Value.bool.injEq];symm;simp only[dR,dk,d9] at *;(rw[e1];omega),a.ext⟩
theorem Jn (w:World) (s:ec):Calls prog 186 [rC s].toArray w (Pure (.int .i64 (h_ s)) w):=by
 refine aW func186 ntmps186 ?_;refine ah ?_;intro d e f;refine bp ?_;refine aj (λb=>?_) (λb=>?_);refine aL ?_;intro c a;exact⟨by rw[h_,ay bA],a.ext⟩;refine bp ?_;intro c a;exact⟨by rw[h_,ag bA],a.ext⟩
theorem Cw (w:World) (p:bh) (s:ec):Calls prog 119 [ee p,rC s].toArray w (Pure (.bool (qo p s)) w):=by
 have j:d9 s→0≤h_ s∧h_ s≤1099511627776:=λh=>by unfold h_;split <;> simp only[d9,dR] at h <;> omega
 obtain⟨G,g⟩ : ∃G,G=h_ s:=⟨_,rfl⟩;unfold qo;rw[←g] at j ⊢
 refine aW func119 ntmps119 ?_;refine ah ?_;intro o q r;refine ar ?_;intro t u v;refine al ?_;refine ao rfl ED rfl (λb i=>(by have h:=Jn b s;rw[←g] at h;exact h)) ?_;refine al ?_;refine ao rfl EE rfl (λb i=>Jm b p) ?_;refine ar ?_;refine aX 10 rfl (λd=>?_) (λd=>?_);have k:=a1 d
 refine ah ?_;refine ao rfl wO rfl (λb i=>yI b s) ?_;refine aq ?_;refine aX 14 rfl (λaK=>?_) (λaK=>?_);have l:=a1 aK
 refine aL ?_;refine aX 19 rfl (λe=>?_) (λe=>?_);have m:=a1 e
 refine aR ?_;refine aX 25 rfl (λf=>?_) (λf=>?_);have n:=a1 f
 refine hr ?_;intro c a;exact⟨by rw[Ending.returned.injEq,Value.bool.injEq];symm;simp only[dR,dk,d9] at *;(rw[hf];omega),a.ext⟩;have n:=bc f
 refine bI ?_;intro c a;exact⟨by rw[Ending.returned.injEq,Value.bool.injEq];symm;simp only[dR,dk,d9] at *;(rw[e1];omega),a.ext⟩;have m:=bc e
 refine eM ?_;intro c a;exact⟨by rw[Ending.returned.injEq,Value.bool.injEq];symm;simp only[dR,dk,d9] at *;(rw[e1];omega),a.ext⟩;have l:=bc aK
 refine jC ?_;intro c a;exact⟨by rw[Ending.returned.injEq,Value.bool.injEq];symm;simp only[dR,dk,d9] at *;(rw[e1];omega),a.ext⟩;have k:=bc d
 refine xf ?_;intro c a;exact⟨by rw[Ending.returned.injEq,Value.bool.injEq];symm;simp only[dR,dk,d9] at *;(rw[e1];omega),a.ext⟩
def ph (a b:bh):Int:=if a=b then 0 else if hO a b=true then -1 else 1
theorem VS (a b:bh):decide (ph a b<0)=hO a b:=by
 unfold ph;by_cases h:a=b
 rw[ay h];subst h;unfold hO;simp
 rw[ag h];by_cases c:hO a b=true
 rw[ay c,c];rfl
 rw[ag c];rw[Bool.not_eq_true] at c
 rw[c];rfl
theorem Jo (w:World) (a b:bh):
 Calls prog 97 [.agg a.enc.toArray,.agg b.enc.toArray].toArray w (λe w'=>e= .returned (.int .i64 (ph a b))∧Ext [] w w'):=by
 refine aW func97 ntmps97 ?_;refine ah ?_;intro l m n;refine ar ?_;intro o p q;refine aJ ?_;refine zo DT rfl rfl rfl ab (Aq a b) ?_;refine ah ?_;refine aj (λh=>?_) (λh=>?_);have d:a=b:=h
 refine aJ ?_;intro f c;exact⟨by unfold ph;rw[ay d],c.ext⟩;have d:a≠b:=h
 refine aL ?_;refine aX 15 rfl (λg=>?_) (λg=>?_);refine lR ?_;intro f c;exact⟨by unfold ph hO;rw[ag d,ay (b5 (Or.inl (a1 g)))],c.ext⟩;refine bB ?_;refine aX 21 rfl (λi=>?_) (λi=>?_);refine dx ?_;refine aj (λj=>?_) (λj=>?_);refine aJ ?_;intro f c;exact⟨by unfold ph hO;rw[ag d,ay (b5 (Or.inr ⟨a1 i,j⟩))],c.ext⟩;refine aR ?_;intro f c;have k:=bc g
 exact⟨by unfold ph hO;rw[ag d,ag (by simp;omega)],c.ext⟩;refine kw ?_;intro f c;have k:=bc g
 have r:=bc i
 exact⟨by unfold ph hO;rw[ag d,ag (by simp;omega)],c.ext⟩
theorem vN (w:World) (a b:bh):
 Calls prog 79 [.agg a.enc.toArray,.agg b.enc.toArray].toArray w (λe w'=>e= .returned (.bool (hO a b))∧Ext [] w w'):=by
 refine aW func79 ntmps79 ?_;refine ah ?_;intro d f g;refine ar ?_;intro h i j;refine aD ?_;refine ao rfl Eq rfl (λw' _=>Jo w' a b) ?_;refine al ?_;intro k c;exact⟨by rw[VS],c.ext⟩
theorem Jp (w:World) (a b:bh):Calls prog 51 [ee a,ee b].toArray w (Pure (ee (hz a b)) w):=by
 refine aW func51 ntmps51 ?_;refine ah ?_;intro g i j;refine ar ?_;intro k l m;refine ar ?_;intro n o p;refine aD ?_;refine ao rfl uA rfl (λd q=>vN d a b) ?_;refine aq ?_;refine aj (λe=>?_) (λe=>?_);refine aJ ?_;intro f c;exact⟨by rw[hz,ay (show hO a b=true from b5 bA)];rfl,c.ext⟩;refine aR ?_;intro f c;exact⟨by rw[hz,ag (show ¬hO a b=true from λh=>absurd (a1 h) bA)];rfl,c.ext⟩
theorem Cx (w:World) (p:bh) (s:ec):Calls prog 118 [ee p,rC s].toArray w (Pure (ee (lz p s)) w):=by
 have g:d9 s→0≤h_ s∧h_ s≤1099511627776:=λh=>by unfold h_;split <;> simp only[d9,dR] at h <;> omega
 obtain⟨G,i⟩ : ∃G,G=h_ s:=⟨_,rfl⟩;unfold lz;rw[←i] at g ⊢
 refine aW func118 ntmps118 ?_;refine ah ?_;intro r m t;refine ar ?_;intro u v x;refine ar ?_;intro y z A;refine ax ?_;refine ao rfl ED rfl (λb j=>(by have h:=Jn b s;rw[←i] at h;exact h)) ?_;refine aL ?_;refine ao rfl EE rfl (λb j=>Jm b p) ?_;refine aq ?_;refine aX 18 rfl (λk=>?_) (λk=>?_);refine sE ?_;intro c a;exact⟨by rw[ay (by simp only[b3,dk,d9,dR] at *;omega)];rfl,a.ext⟩;refine ah ?_;refine ao rfl wO rfl (λb j=>yI b s) ?_;refine aS ?_;refine aX 23 rfl (λaK=>?_) (λaK=>?_);refine hr ?_;intro c a;exact⟨by rw[ay (by simp only[b3,dk,d9,dR] at *;omega)];rfl,a.ext⟩;refine bB ?_;refine aj (λd=>?_) (λd=>?_);have n:=d
 refine bp ?_;intro c a;exact⟨by rw[ay (by simp only[b3,dk,d9,dR] at *;omega)];rfl,a.ext⟩;have n:=d
 have l:dk p∧d9 s:=⟨Decidable.byContradiction λh=>by simp[h] at k,Decidable.byContradiction λh=>by simp[h] at aK⟩
 have m:=g l.2
 simp only[dk,d9,dR] at l
 refine aL ?_;refine aj (λe=>?_) (λe=>?_);have o:=e
 refine eM ?_;intro c a;exact⟨by rw[ag (by simp only[b3,dk,d9,dR] at *;omega),ay (by simp only[b3,dk,d9,dR] at *;omega)];rfl,a.ext⟩;have o:=e
 refine bB ?_;refine aj (λf=>?_) (λf=>?_);have q:=f
 refine cI ?_;intro c a;exact⟨by rw[ag (by simp only[b3,dk,d9,dR] at *;omega),ag (by simp only[b3,dk,d9,dR] at *;omega),ay (by simp only[b3,dk,d9,dR] at *;omega)];rfl,a.ext⟩;have q:=f
 refine eM ?_;intro c a;exact⟨by rw[ag (by simp only[b3,dk,d9,dR] at *;omega),ag (by simp only[b3,dk,d9,dR] at *;omega),ag (by simp only[b3,dk,d9,dR] at *;omega)];rfl,a.ext⟩
structure dl where
 A:Option Addr
 c:Nat
 l:List bh
abbrev dl.val (r:dl):Value:= .slice r.A r.l.length r.c
abbrev dl.au (r:dl):Chunk:=Mq.au 51 bW r.A r.c r.l
structure g_ where
 g:Nat
 p:dl
 most:Int
abbrev Cy (s:g_):List Value:=[s.p.val,.int .i64 s.most]
abbrev g_.an (s:g_):Chunk:=aE s.g (Cy s) 153
abbrev e8 (s:g_):List Chunk:=[s.an,s.p.au]
structure qq (s:g_):Prop where
 len: (s.p.l.length:Int)≤s.most
 most:1≤s.most∧s.most≤10000
theorem Jq (w:World) (p:bh):Calls prog 80 [ee p].toArray w (Pure (.bool (decide (dk p))) w):=by
 refine aW func80 ntmps80 ?_;refine ah ?_;intro h i j;refine aJ ?_;refine aX 6 rfl (λb=>?_) (λb=>?_);have e:=a1 b
 refine aL ?_;refine aX 11 rfl (λaK=>?_) (λaK=>?_);have f:=a1 aK
 refine aL ?_;refine aX 16 rfl (λc=>?_) (λc=>?_);have g:=a1 c
 refine bB ?_;intro d a;exact⟨by rw[Ending.returned.injEq,Value.bool.injEq];symm;simp only[dR,dk] at *;(rw[hf];omega),a.ext⟩;have g:=bc c
 refine aJ ?_;intro d a;exact⟨by rw[Ending.returned.injEq,Value.bool.injEq];symm;simp only[dR,dk] at *;(rw[e1];omega),a.ext⟩;have f:=bc aK
 refine b_ ?_;intro d a;exact⟨by rw[Ending.returned.injEq,Value.bool.injEq];symm;simp only[dR,dk] at *;(rw[e1];omega),a.ext⟩;have e:=bc b
 refine eM ?_;intro d a;exact⟨by rw[Ending.returned.injEq,Value.bool.injEq];symm;simp only[dR,dk] at *;(rw[e1];omega),a.ext⟩
theorem VT (w:World) (n:Int) (h:1≤n∧n≤10000):Calls prog 31 [.int .i64 n].toArray w
 (aO (λg:Nat=> .tuple #[ptr g,.int .i64 0]) [] (λg=>e8 ⟨g,⟨none,0,[]⟩,n⟩) (λ_=>True) w):=by
 refine aW func31 ntmps31 ?_;refine bB ?_;refine aX 6 rfl (λa=>?_) (λa=>?_);have d:=a1 a
 refine cI ?_;intro c b
 (exfalso;omega)
 have d:=bc a
 refine aD ?_;refine aj (λaK=>?_) (λaK=>?_);refine aJ ?_;intro c b
 (exfalso;omega)
 refine aD ?_;intro e f i;refine al ?_;intro c b;exact aO.bQ e aT rfl ((b.eO 51 bW).aw ae)
theorem Cz (w:World) (s:g_) (c:a8 w (e8 s)) (a:qq s):Calls prog 40 [ptr s.g].toArray w
 (aO (λz:dl=>z.val) (e8 s) (λz=>e8 s++[z.au]) (λz=>z.l=s.p.l) w):=by
 have i:=a.len
 have j:=a.most
 refine bC func40 ntmps40 c ?_;refine hs ?_;refine px 51 2 ?_;refine nc (E:=bW) (src:=s.p.l) (F:=λ_=>True) (xs:=[]) ds rfl rfl rfl (λ_=>by exact cA) (λw' d=>gV (d.has cu)) (by simp only[maxLen];omega) aa (λf k=>?_);refine iI (e:=51) (sz:=2) (v:=f) aQ (λdF c9 h _ _ _ _=>?_);subst h;refine ax ?_;intro m b;simp only[dA,oe] at b ⊢
 exact aN ⟨dF,c9,s.p.l⟩ rfl b
structure vO (s z:g_):Prop where
 g:z.g=s.g
 most:z.most=s.most
 ok:qq z
def CA (s:g_) (v:Value) (w:World):Ending→World→Prop:=aO (λ_:g_=>v) (e8 s) e8 (vO s) w
theorem VU (w:World) (s:g_) (n:a8 w (e8 s)) (b:qq s) (p:bh):Calls prog 67 [ptr s.g,ee p].toArray w (CA s (.tuple #[]) w):=by
 have B:=b.len
 have C:=b.most
 obtain⟨c,d⟩:=p;refine bC func67 ntmps67 n ?_;refine ah ?_;intro j D G;refine bp ?_;refine ao rfl En rfl (λo H=>Jq o ⟨c,d⟩) ?_;refine ax ?_;refine b6 rfl (λi=>?_) (λi=>?_);simp only[b3] at i
 refine ah ?_;intro k a;exact aN s ⟨rfl,rfl,b⟩ a;simp only[b3] at i
 refine aS ?_;refine bF [0,1,2,3,4,5,6,7,8,9] 0 [[]] ?_;refine bI ?_;refine aj (λaK=>?_) (λaK=>?_);refine al ?_;refine iI (e:=51) (sz:=2) (v:=s.p.val) cu (λI J q K _ _ _=>?_);cases q
 refine px 51 2 ?_;refine ft 1 s.p.l.length ds rfl rfl (.inl ⟨_,_,rfl,rfl,aa⟩) (.inr ⟨rfl,rfl⟩) aa aa ?_;refine nc (E:=bW) (src:=(s.p.l.take s.p.l.length).drop 1) (F:=λ_=>True) (xs:=[]) ds rfl rfl rfl (λ_=>by exact cA) (λw' r=>(gV (r.has hL)).cut aa aa) (by simp only[maxLen];omega) aa (λt L=>?_);refine iI (e:=51) (sz:=2) (v:=t) aQ (λdF c9 u _ _ _ _=>?_);subst u;obtain⟨f,m⟩ : ∃f,f=(s.p.l.take s.p.l.length).drop 1:=⟨_,rfl⟩;have x:f.length=s.p.l.length - 1:=by rw[m];simp
 rw[←m,dA,oe,←x];refine ax ?_;refine eq [0,1,2,3,4,5] 3 [[(6,false,[]),(7,false,[8,9]),(10,true,[])]] (_) mixed ab (λ_ a=>a.drew) (λ_ h=>(show af _ _ [aE j _ 51,aE s.g _ 153] _ from h.aw ae)) ?_;refine aL ?_;refine dG (E:=bW) ⟨_,_⟩ ds rfl rfl rfl rfl rfl (λy z A=>?_);refine bV (λ_=>True) (λ_ h=> .inr (h.aw ae)) (λ_ h=>aT) ?_;refine aq ?_;refine ew (E:=bW) ds rfl rfl rfl bi (λ_ _=>cA) b7 b7 (λM N=>?_);refine bV (λ_=>True) (λ_ h=> .inr ⟨.inr (h.aw ae),cz⟩) (λ_ h=>aT) ?_;refine aJ ?_;intro k a
 (refine aO.bQ ⟨s.g,⟨_,_,f++[⟨c,d⟩]⟩,s.most⟩ ?_ rfl (a.aw ae);exact⟨rfl,rfl,by show (((f++[⟨c,d⟩]:List bh).length:Nat):Int)≤s.most;rw[b8,iC];omega,b.most⟩)
 refine aq ?_;refine eq [0,1,2,3,4,5] 3 [[(6,false,[]),(7,false,[8,9]),(10,true,[])]] (_) mixed ab (λ_ a=>a.drew) (λ_ h=>(show af _ _ [aE j _ 51,aE s.g _ 153] _ from h.aw ae)) ?_;refine aL ?_;refine dG (E:=bW) ⟨_,_⟩ ds rfl rfl rfl rfl rfl (λy z A=>?_);refine bV (λ_=>True) (λ_ h=> .inr (h.aw ae)) (λ_ h=>aT) ?_;refine aq ?_;refine ew (E:=bW) ds rfl rfl rfl bi (λ_ _=>ld) b7 b7 (λO P=>?_);refine bV (λ_=>True) (λ_ h=> .inr ⟨.inr (h.aw ae),cz⟩) (λ_ h=>aT) ?_;refine aJ ?_;intro k a
 (refine aO.bQ ⟨s.g,⟨_,_,s.p.l++[⟨c,d⟩]⟩,s.most⟩ ?_ rfl (a.aw ae);exact⟨rfl,rfl,by show (((s.p.l++[⟨c,d⟩]:List bh).length:Nat):Int)≤s.most;rw[b8,iC];omega,b.most⟩)
section
def VV (s:g_) (w:World):Ending→World→Prop:=aO (λi:Int × g_=> .int .i64 i.1) (e8 s) (λi=>e8 i.2) (λi=>vO s i.2) w
section
variable {P:Program} {n:Nat} {ops:Array Oper} {Q:cq} {rest:List Oper} {l:Fr} {d:Nat} {ty:TypeId} {pos:String} {a6:Array Edge} {H:World→Prop}
theorem VW {x y:Operand} {t e sz j:Nat} {z:List Value} {A a:Option Addr} {m k c c':Nat} (b:c6 P t e sz j z) (f:k=0) (ak:Nat.blt d n=true) (o:ba l x=some (.slice A m c)) (p:ba l y=some (.slice a k c'))
 (h:az P n ops Q rest ((d,.int .i64 (k:Int))::l) H):az P n ops Q (⟨some d,.call ⟨.builtin .copy,#[x,y],#[t,t]⟩,ty,pos,a6,none⟩::rest) l H:=by
 subst f;obtain⟨i,fj,q,f,u,r,v⟩:=b.inf;refine df _ ak (λB w g=>?_) h;have s:Nat.min 0 m=0:=iE (bP _)
 cases A <;> cases a <;> simp[loadCells,loadCellsFrom,storeCells,execOp,resolve,invoke,builtin,g x _ o,g y _ p,Builtin.copy_,run_underlying b.e_,Builtin.lenOf,run_sizeOf q,r,s,goInt,Builtin.firstCells]
end
theorem VX (w:World) (s:g_) (B:a8 w (e8 s)) (b:qq s) (A:Option Addr) (n c:Nat) (L:List bh) (d:Rd bW w (λk=>k∉aA (e8 s)) A n c L) (U:n≤1000000):Calls prog 42 [ptr s.g,.slice A n c].toArray w (VV s w):=by
 have x:=b.len
 have V:=b.most
 have W:=d.len
 refine bC func42 ntmps42 B ?_;refine xh ?_;refine aj (λC=>?_) (λC=>?_);refine aL ?_;intro f a;exact aN (1,s) ⟨rfl,rfl,b⟩ a;refine bp ?_;refine b1 (ι:=Nat) (λi=>[(0,ptr s.g),(1,.slice A n c),(19,.slice A n c),(20,.int .i64 (n:Int)),(21,.int .i64 (i:Int))]) (λ_=>af w (aA (e8 s)) (e8 s)) (λi=>i≤n) (λi=>n - i) ?_ ?_;exact λw' m=>⟨0,bP _,(ea rfl rfl rfl rfl rfl),m⟩
 intro i hi;refine al ?_;refine aj (λD=>?_) (λD=>?_);obtain⟨v,G⟩ : ∃v,L[i]? = some v:=⟨L[i]'aa,bG _⟩;obtain⟨b2,H,I,J⟩:=d.at_ G;refine al ?_;refine bw (q:=i) ds rfl rfl rfl H rfl aa ?_;refine cy (vs:=v.enc) dN rfl rfl rfl (λX x j u K=>x.ct (J j u K) (by simp only[block_add];exact I)) ?_;refine ar ?_;intro Y Z Za;refine al ?_;refine ao rfl En rfl (λM Zb=>Jq M v) ?_;refine ah ?_;refine b6 rfl (λo=>?_) (λo=>?_);simp only[b3] at o
 refine bB ?_;intro f a;exact aN (1,s) ⟨rfl,rfl,b⟩ a;simp only[b3] at o
 refine aD ?_;exact bg (i+1) aa aa bR (λ_ h=>h.aw ae);have Zc:i=n:=by omega
 have N:n=s.p.l.length:=by omega
 rcases gM n with y | y
 refine bB ?_;refine VW ds y rfl rfl rfl ?_;refine aJ ?_;intro f a;exact aN (0,s) ⟨rfl,rfl,b⟩ a;refine bB ?_;refine iI (e:=51) (sz:=2) (v:=s.p.val) bH (λO Zd P Ze _ _ Q=>?_);have r:s.p.A=O:=by injection P
 obtain⟨z,t⟩:=Q aa;refine DM (E:=bW) (g:=z) (src:=L) (F:=λk=>k∉aA (e8 s)) ds rfl (by rw[←t,←r];rfl) rfl (by rw[←t,←r];exact er) (λw' m=>d.ext m.ext (λ_ h=>h)) aa ?_;refine aJ ?_;intro f a;have R:bW.all L++(bW.all s.p.l).drop (n*bW.sz)=bW.all L:=by rw[n9 (by rw[bW.dE,N];exact ch _),fR]
 have S:L.length=s.p.l.length:=by omega
 have T:s.p.A=some ⟨z,0,none⟩:=r.trans t
 rw[R] at a
 refine aO.bQ (0,⟨s.g,⟨s.p.A,s.p.c,L⟩,s.most⟩) ⟨rfl,rfl,by show ((L.length:Nat):Int)≤s.most;omega,b.most⟩ rfl ?_;simp only[e8,g_.an,Cy,dl.val,dl.au,Mq.au,S,T] at a ⊢
 exact a.aw ae
end
def VY:Shelf.Ren:=⟨λ| 125=>146 | 128=>214 | 129=>215 | n=>n,λ| 3=>3 | 4=>4 | 5=>5 | 9=>9 | 46=>250 | 51=>76 | 53=>32 | n=>n,λn=>n⟩
theorem VZ:Lays.n125 prog VY where
 mixed:=by kernel_rfl
 f125:=func146.trans (aV some ab)
 f128:=func214.trans (aV some ab)
 f129:=func215.trans (aV some ab)
 t3:=underlying3
 a3:=isAgg3
 z3:=sizeOf3
 v3:=zeroValue3
 t4:=underlying4
 a4:=isAgg4
 z4:=sizeOf4
 v4:=zeroValue4
 t5:=underlying5
 a5:=isAgg5
 z5:=sizeOf5
 v5:=zeroValue5
 t9:=underlying9
 a9:=isAgg9
 z9:=sizeOf9
 v9:=zeroValue9
 t46:=underlying250
 a46:=isAgg250
 z46:=sizeOf250
 v46:=zeroValue250
 t51:=underlying76
 a51:=isAgg76
 z51:=sizeOf76
 v51:=zeroValue76
 t53:=underlying32
 a53:=isAgg32
 z53:=sizeOf32
 v53:=zeroValue32
theorem Jr {P:Program} {n:Nat} {c:Code} {Q:cq} {l:Fr} {H:World→Prop} {p:Prop} (ai: ∀w,H w→p) (h:p→de P n c Q l H):de P n c Q l H:=λw a=>h (ai w a) w a
abbrev tN:Value:= .func (.func 96) #[] #[]
theorem V0 (w:World) (a b:bh):Calls prog 96 (([]:List Value)++[ee a,ee b]++[]).toArray w (Pure (.int .i64 (ph a b)) w):=by
 refine aW func96 ntmps96 ?_;refine ah ?_;intro e f g;refine ar ?_;intro h i j;refine aD ?_;refine ao rfl Eq rfl (λc k=>Jo c a b) ?_;refine ax ?_;intro l d;exact⟨rfl,d.ext⟩
theorem V1 (w:World) (z:dl) (K:a8 w [z.au]) (M:z.l.length≤12):Calls prog 206 [z.val,.int .i64 0,.int .i64 (z.l.length:Int),tN].toArray w
 (aO (λ_:List bh=> .tuple #[]) [z.au] (λl=>[dl.au ⟨z.A,z.c,l⟩]) (λl=>l.length=z.l.length) w):=by
 obtain⟨A,c,l0⟩:=z;dsimp only at M ⊢
 refine bC func206 ntmps206 K ?_;refine aL ?_;refine b1 (ι:=Nat × List bh) (λt=>[(0,.slice A l0.length c),(1,.int .i64 0),(2,.int .i64 (l0.length:Int)),(3,tN),(8,.int .i64 (t.1 :Int))]) (λt=>af w (aA [dl.au ⟨A,c,l0⟩]) [dl.au ⟨A,c,t.2⟩]) (λt=>1≤t.1∧t.2.length=l0.length) (λt=>l0.length - t.1) ?_ ?_;exact λw' s=>⟨(1,l0),⟨ch _,rfl⟩,(ea rfl rfl rfl rfl rfl),s⟩
 rintro⟨i,l⟩ ⟨hi,v⟩;dsimp only at hi v ⊢
 refine aL ?_;refine aj (λN=>?_) (λN=>?_);refine bp ?_;refine Jr (λU O=>x9 (O.has (c:=dl.au ⟨A,c,l⟩) aQ) (by show 0<l.length;omega)) (λB=>?_);obtain⟨gs,B⟩:=B;subst B;refine b1 (ι:=Int × List bh) (λt=>[(0,.slice (some ⟨gs,0,none⟩) l0.length c),(1,.int .i64 0),(2,.int .i64 (l0.length:Int)),(3,tN),(8,.int .i64 (i:Int)),(9,.int .i64 t.1)]) (λt=>af w (aA [dl.au ⟨some ⟨gs,0,none⟩,c,l0⟩]) [dl.au ⟨some ⟨gs,0,none⟩,c,t.2⟩]) (λt=>0≤t.1∧t.1≤i∧t.2.length=l0.length) (λt=>t.1.toNat) ?_ ?_;exact λw' s=>⟨((i:Int),l),⟨by dsimp only;omega,by dsimp only;omega,v⟩,(gC rfl rfl rfl rfl rfl rfl),s⟩
 rintro⟨j,m⟩ ⟨P,Q,n⟩;dsimp only at P Q n ⊢
 obtain⟨a,C⟩ : ∃a,m[j.toNat]? = some a:=⟨_,bG aa⟩;obtain⟨b,D⟩ : ∃b,m[(j - 1).toNat]? = some b:=⟨_,bG aa⟩;have I:cZ (cZ (bW.all m) (j.toNat*2) b.enc) ((j - 1).toNat*2) a.enc=bW.all ((m.set j.toNat b).set (j - 1).toNat a):=(aV (λq=>cZ q ((j - 1).toNat*2) a.enc) (bx.hl bW b aa)).trans (bx.hl bW a (by rw[fL];omega))
 have V:cZ (cZ (bW.all m) ((j - 1).toNat*2) a.enc) (j.toNat*2) b.enc=bW.all ((m.set (j - 1).toNat a).set j.toNat b):=(aV (λq=>cZ q (j.toNat*2) b.enc) (bx.hl bW a aa)).trans (bx.hl bW b (by rw[fL];omega))
 have J: ∀(x:List Value) (L:List bh) (r:World) (F:List Nat),x=bW.all L→L.length=m.length→af w F [own 51 2 (.slice (some ⟨gs,0,none⟩) m.length c) m.length x] r→af w F [dl.au ⟨some ⟨gs,0,none⟩,c,L⟩] r:=λx L r F f R h=>by
  subst f;rw[←R] at h
  exact h
 refine aq ?_;refine bF [0,1,2,3,4,5,6,7,8,9,10,11,12,13] 1 [[(14,true,[15,16])]] ?_;refine aS ?_;refine no 21 rfl (λk=>?_) (λk=>?_);have S:=a1 k
 refine ah ?_;refine aI rfl (λg d=>bY rfl rfl (k) (bw (q:=j.toNat) ds rfl rfl rfl rfl aa aa aC)) ?_;refine aI rfl (λg d=>bY rfl rfl (k) (cy (vs:=a.enc) dN rfl rfl rfl (λp G y u e=>by subst G;exact d.fO (E:=bW) aQ rfl C y u e) aC)) ?_;refine ah ?_;refine aI rfl (λg d=>bY rfl rfl (k) (bw (q:=(j - 1).toNat) ds rfl rfl rfl rfl aa aa aC)) ?_;refine aI rfl (λg d=>bY rfl rfl (k) (cy (vs:=b.enc) dN rfl rfl rfl (λp G y u e=>by subst G;exact d.fO (E:=bW) aQ rfl D y u e) aC)) ?_;refine ah ?_;refine gx (first:=[]) (cap:=[]) rfl rfl ML rfl (λT W=>V0 T a b) ?_;refine al ?_;refine aj (λaK=>?_) (λaK=>?_);refine aS ?_;refine eq [0,1,2,3,4,5,6,7,8,10,11,12] 4 [[(9,false,[]),(13,false,[14]),(15,false,[16]),(17,false,[])],[(13,false,[]),(9,false,[14]),(15,false,[16]),(17,false,[])]] (_) mixed ab (λ_ H=>H.drew) (λ_ h=>True.intro) ?_;refine aL ?_;refine aI rfl (λg d=>(bw (q:=(j - 1).toNat) ds rfl rfl rfl rfl aa aa aC)) ?_;refine aq ?_;refine aI rfl (λg d=>(bw (q:=j.toNat) ds rfl rfl rfl rfl aa aa aC)) ?_;refine ar ?_;refine Ap ?_ ?_;refine cy (vs:=b.enc) dN rfl rfl rfl (λp f y u e=>f.fO (E:=bW) aQ rfl D y u e) ?_;refine bV (λ_=>True) (λ_ h=> .inr cz) (λ_ h=>aT) ?_;refine aq ?_;refine cy (vs:=a.enc) dN rfl rfl rfl (λp f y u e=>f.fO (E:=bW) aQ rfl C y u e) ?_;refine bV (λ_=>True) (λ_ h=> .inr ⟨.inr cz,cz⟩) (λ_ h=>aT) ?_;refine aI rfl (λg d=>(bw (q:=j.toNat) ds rfl rfl rfl rfl aa aa aC)) ?_;refine aq ?_;refine jT (o:=j.toNat*2) dN rfl rfl cA (by rw[Addr.add_lit,dA]) rfl (bW.hj b) (by (rw[bW.dE];show j.toNat*2+2≤m.length*2;omega)) ?_;refine bV (λ_=>True) (λ_ h=> .inr ⟨.inr ⟨.inr cz,cz⟩,cz⟩) (λ_ h=>aT) ?_;refine aI rfl (λg d=>(bw (q:=(j - 1).toNat) ds rfl rfl rfl rfl aa aa aC)) ?_;refine aq ?_;refine jT (o:=(j - 1).toNat*2) dN rfl rfl cA (by rw[Addr.add_lit,dA]) rfl (bW.hj a) (by (rw[wu,bW.dE];show (j - 1).toNat*2+2≤m.length*2;omega)) ?_;refine bV (λ_=>True) (λ_ h=> .inr ⟨.inr ⟨.inr ⟨.inr cz,cz⟩,cz⟩,cz⟩) (λ_ h=>aT) ?_;refine aJ ?_;exact bg (j - 1,(m.set j.toNat b).set (j - 1).toNat a) ⟨by dsimp only;omega,by dsimp only;omega,by simp[n]⟩ bm (gC rfl rfl rfl rfl rfl rfl) (λ_ h=>J _ _ _ _ I av h);refine cy (vs:=a.enc) dN rfl rfl rfl (λp f y u e=>f.fO (E:=bW) aQ rfl C y u e) ?_;refine bV (λ_=>True) (λ_ h=> .inr cz) (λ_ h=>aT) ?_;refine aq ?_;refine cy (vs:=b.enc) dN rfl rfl rfl (λp f y u e=>f.fO (E:=bW) aQ rfl D y u e) ?_;refine bV (λ_=>True) (λ_ h=> .inr ⟨.inr cz,cz⟩) (λ_ h=>aT) ?_;refine aI rfl (λg d=>(bw (q:=j.toNat) ds rfl rfl rfl rfl aa aa aC)) ?_;refine aq ?_;refine jT (o:=j.toNat*2) dN rfl rfl cA (by rw[Addr.add_lit,dA]) rfl (bW.hj b) (by (rw[bW.dE];show j.toNat*2+2≤m.length*2;omega)) ?_;refine bV (λ_=>True) (λ_ h=> .inr ⟨.inr ⟨.inr cz,cz⟩,cz⟩) (λ_ h=>aT) ?_;refine aI rfl (λg d=>(bw (q:=(j - 1).toNat) ds rfl rfl rfl rfl aa aa aC)) ?_;refine aq ?_;refine jT (o:=(j - 1).toNat*2) dN rfl rfl cA (by rw[Addr.add_lit,dA]) rfl (bW.hj a) (by (rw[wu,bW.dE];show (j - 1).toNat*2+2≤m.length*2;omega)) ?_;refine bV (λ_=>True) (λ_ h=> .inr ⟨.inr ⟨.inr ⟨.inr cz,cz⟩,cz⟩,cz⟩) (λ_ h=>aT) ?_;refine aJ ?_;exact bg (j - 1,(m.set j.toNat b).set (j - 1).toNat a) ⟨by dsimp only;omega,by dsimp only;omega,by simp[n]⟩ bm (gC rfl rfl rfl rfl rfl rfl) (λ_ h=>J _ _ _ _ I av h);refine bp ?_;exact bg (i+1,m) ⟨by dsimp only;omega,n⟩ bm bR (λ_ h=>h.aw ae);have S:=bc k
 refine xi ?_;exact bg (i+1,m) ⟨by dsimp only;omega,n⟩ bm bR (λ_ h=>h.aw ae);refine ax ?_;intro r H;exact aO.bQ l v rfl H
theorem V2 (w:World) (z:dl) (a:a8 w [z.au]) (d:z.l.length≤12) (k:Int):Calls prog 145 [z.val,.int .i64 0,.int .i64 (z.l.length:Int),.int .i64 k,tN].toArray w
 (aO (λ_:List bh=> .tuple #[]) [z.au] (λl=>[dl.au ⟨z.A,z.c,l⟩]) (λl=>l.length=z.l.length) w):=by
 refine bC func145 ntmps145 a ?_;refine bp ?_;refine b1 (ι:=Unit) (λ_=>[(0,z.val),(1,.int .i64 0),(2,.int .i64 (z.l.length:Int)),(4,tN)]) (λ_=>af w (aA [z.au]) [z.au]) (λ_=>True) (λ_=>0) ?_ ?_;exact λw' e=>⟨(),aT,(cw rfl rfl rfl rfl),e⟩
 rintro⟨⟩ -;refine dx ?_;refine aj (λb=>?_) (λb=>?_);refine al ?_;refine cE (λf o=>V1 f z o d) (λl a=>?_);refine aL ?_;intro h g;exact aN l a g;exact absurd b aa
theorem V3 (w:World) (z:dl) (a:a8 w [z.au]) (d:z.l.length≤12):Calls prog 95 [z.val,tN].toArray w
 (aO (λ_:List bh=> .tuple #[]) [z.au] (λl=>[dl.au ⟨z.A,z.c,l⟩]) (λl=>l.length=z.l.length) w):=by
 refine bC func95 ntmps95 a ?_;refine bp ?_;refine dm (r:=(z.l.length:Int)) rfl rfl underlying3 underlying250 (by simp[IntKind.wrap,IntKind.bits,IntKind.signed];omega) ?_;refine ao rfl M_ rfl (λb _=>(Any.bits_Len VZ (z.l.length:Int) b aa aa).mono (λe g h=>⟨h.1,h.2▸Ext.refl _ _⟩)) ?_;refine ar ?_;refine aY (l0:=[z.au]) ae rfl M9 rfl (λb o=>V2 b z (o.bo ae) d _) (λl a=>?_);refine aq ?_;intro i f;exact aN l a f
theorem V4 (w:World) (z:dl) (a:a8 w [z.au]) (b:z.l.length≤12):Calls prog 58 [z.val].toArray w
 (aO (λy:dl=>y.val) [z.au] (λy=>[y.au]) (λy=>y.l.length=z.l.length) w):=by
 refine bC func58 ntmps58 a ?_;refine aL ?_;refine px 51 2 ?_;refine nc (E:=bW) (src:=z.l) (F:=λ_=>True) (xs:=[]) ds rfl rfl rfl (λ_=>by exact cA) (λw' d=>gV (d.has (c:=z.au) bH)) (by simp only[maxLen];omega) aa (λf j=>?_);refine iI (e:=51) (sz:=2) (v:=f) aQ (λdF c9 g _ _ _ _=>?_);subst g;refine aS ?_;simp only[dA,oe];refine aq ?_;refine cE (λh o=>V3 h ⟨dF,c9,z.l⟩ o b) (λl a=>?_);refine aR ?_;intro k i;exact aO.bQ ⟨dF,c9,l⟩ a (by rw[dl.val,a]) (i.aw ae)
theorem V5 (w:World) (s:g_) (d:a8 w (e8 s)) (b:qq s) (i:s.most≤12):Calls prog 28 [ptr s.g].toArray w
 (aO (λz:dl=>z.val) (e8 s) (λz=>e8 s++[z.au]) (λz=>(z.l.length:Int)≤s.most) w):=by
 have e:=b.len
 refine bC func28 ntmps28 d ?_;refine aL ?_;refine cE (λa o=>Cz a s o b) (λz c=>?_);refine aY (l0:=[z.au]) ae rfl Mw rfl (λa o=>V4 a z (o.bo ae) (by rw[c];omega)) (λy f=>?_);refine ax ?_;intro j h;exact aN y (by rw[f,c];exact e) h
end Go.Proofs.YtoghoobfpcadbaaGreatDoor.Mq
namespace Go.Proofs.YtoghoobfpcadbaaGreatDoor.Mq
open Go Go.RowKit Go.Proofs
section
section
variable {P:Program} {n:Nat} {ops:Array Oper} {Q:cq} {rest:List Oper} {l:Fr} {d:Nat} {ty:TypeId} {pos:String} {a6:Array Edge}
variable {b:World} {S:List Nat} {cs:List Chunk}
theorem Js {α:Type} {E:bx α} {x y:Operand} {t e B:Nat} {z:List Value} {g j m c f c1:Nat} {xs:List Value} {a:α} {te:TypeId} {cs':List Chunk} (r:c6 P t e E.sz B z) (ak:Nat.blt d n=true)
 (C:ba l x=some (.slice (some ⟨g,0,none⟩) j c)) (D:ba l y=some (.slice (some ⟨f,0,none⟩) 1 c1)) (F:Has cs (aE f (E.enc a) te)) (G:j<m) (U:m≤c)
 (s:bn cs (own e E.sz (.slice (some ⟨g,0,none⟩) m c) m xs) (own e E.sz (.slice (some ⟨g,0,none⟩) m c) m (cZ xs (j*E.sz) (E.enc a))) cs')
 (h:az P n ops Q rest ((d,.slice (some ⟨g,0,none⟩) (j+1) c)::l) (af b S cs')):
 az P n ops Q (⟨some d,.call ⟨.builtin .append,#[x,y],#[t,t]⟩,ty,pos,a6,none⟩::rest) l (af b S cs):=by
 obtain⟨i,fj,H,V,W,I,X⟩:=r.inf;refine hD ak λY w v q=>?_
 have J:=q.has s.has
 have K:xs.length=m*E.sz:=J.1
 have A: (j+1)*E.sz≤m*E.sz:=kZ _ G
 rw[oj] at A
 obtain⟨w',L,M⟩:=q.sc (P:=P) (xs:=xs) (o:=j*E.sz) (vs:=E.enc a) (by rw[E.len,K];exact A) (E.hj a) s;have N: (Builtin.firstCells E.sz 1 (.slice (some ⟨f,0,none⟩) 1 c1)).run P w= .ok (E.enc a).toArray w:=by
  have:=run_loadCellsFrom (P:=P) (w:=w) (p:=⟨f,0,none⟩) (E.enc a) 0 #[] (λk u O=>by
   have R:=q.ep F O
   rw[Addr.add_lit];simpa using R)
  rw[E.len] at this
  simpa [Builtin.firstCells,loadCells] using this
 refine⟨.slice (some ⟨g,0,none⟩) (j+1) c,w',?_,h.at M⟩;have T:j+1≤c:=by omega
 simp[execOp,resolve,invoke,builtin,v x _ C,v y _ D,Builtin.append_,run_underlying r.e_,Builtin.lenOf,run_sizeOf H,I,N,T,Addr.add_lit,L]
end
theorem CB {e sz m c j:Nat} {A:Option Addr} {xs:List Value} {w:World} (d:j≤m) (h: (own e sz (.slice A m c) m xs).pred w): (own e sz (.slice A j c) j (xs.take (j*sz))).pred w:=by
 obtain⟨f,i⟩:=h;have k:j*sz≤m*sz:=kZ _ d
 refine⟨by rw[dv,f];omega,?_⟩;rcases i with ⟨l,u⟩ | ⟨g,cap,am,n,o,p,v,q,r,s⟩
 left
 injection l with a t b
 have:j=0:=by omega
 subst this;exact⟨by rw[a,b],rfl⟩;right
 injection n with a t b
 refine⟨g,cap,am,by rw[a,b],o,p,aa,q,r,?_⟩;rw[←s,List.take_take,iE k]
end
end Go.Proofs.YtoghoobfpcadbaaGreatDoor.Mq
