/- part 32 of the proof -/
import Derived.Test.YtkeokgcdnfjaaaaGreatDoorQ31
namespace Go.Proofs.YtkeokgcdnfjaaaaGreatDoor.Mq
open Go Go.RowKit Go.Proofs Tryz
abbrev dM (n:Int):Prop:=0≤n∧n≤1099511627776
abbrev di (p:bl):Prop:=dM p.row∧dM p.dm
abbrev dX (s:ed):Prop:=(s.kind=0∨s.kind=1∨s.kind=2)∧dM s.at_∧dM s.n∧0<s.n
def hR (s:ed):Int:=if s.kind=2 then 0 else s.at_
def lr (p:bl) (s:ed):bl:=
 if ¬di p∨ ¬dX s∨p.row<hR s then p else
 if s.kind=0 then ⟨p.row+s.n,p.dm⟩ else
 if p.row<hR s+s.n then ⟨hR s,0⟩ else ⟨p.row - s.n,p.dm⟩
def qi (p:bl) (s:ed):Bool:=decide (di p∧dX s∧s.kind≠0∧hR s≤p.row∧p.row<hR s+s.n)
def hS (a b:bl):bl:=if fH a b=true then b else a
abbrev d9 (p:bl):Value:= .agg p.enc.toArray
abbrev ru (s:ed):Value:= .agg s.enc.toArray
theorem qj (w:World) (n:Int):Calls prog 180 [.int .i64 n].toArray w (Pure (.bool (decide (dM n))) w):=by
 refine aW func180 ntmps180 ?_;refine aR ?_;refine aV 5 rfl (λa=>?_) (λa=>?_);have c:=aY a
 refine aR ?_;intro d b;exact⟨by rw[Ending.returned.injEq,Value.bool.injEq];symm;(rw[gG];omega),b.ext⟩;have c:=a8 a
 refine aK ?_;intro d b;exact⟨by rw[Ending.returned.injEq,Value.bool.injEq];symm;(rw[e2];omega),b.ext⟩
theorem Jf (w:World) (p:bl):Calls prog 182 [d9 p].toArray w (Pure (.bool (decide (di p))) w):=by
 refine aW func182 ntmps182 ?_;refine ah ?_;intro g h i;refine aC ?_;refine ao rfl pB rfl (λa d=>qj a _) ?_;refine aq ?_;refine aV 6 rfl (λb=>?_) (λb=>?_);have e:=aY b
 refine ay ?_;refine ao rfl pB rfl (λa d=>qj a _) ?_;refine al ?_;intro f c;exact⟨by rw[Ending.returned.injEq,Value.bool.injEq];symm;simp only[dM,di,dX] at *;(rw[gG];omega),c.ext⟩;have e:=a8 b
 refine aJ ?_;intro f c;exact⟨by rw[Ending.returned.injEq,Value.bool.injEq];symm;simp only[dM,di,dX] at *;(rw[e2];omega),c.ext⟩
theorem yw (w:World) (s:ed):Calls prog 116 [ru s].toArray w (Pure (.bool (decide (dX s))) w):=by
 refine aW func116 ntmps116 ?_;refine ah ?_;intro x y z;refine aJ ?_;refine aV 6 rfl (λe=>?_) (λe=>?_);have m:=aY e
 refine cE ?_;refine ao rfl pB rfl (λb d=>qj b _) ?_;refine ar ?_;refine aV 21 rfl (λaH=>?_) (λaH=>?_);have n:=aY aH
 refine ay ?_;refine ao rfl pB rfl (λb d=>qj b _) ?_;refine ar ?_;refine aV 26 rfl (λf=>?_) (λf=>?_);have o:=aY f
 refine bw ?_;intro c a;exact⟨by rw[Ending.returned.injEq,Value.bool.injEq];symm;simp only[dM,di,dX] at *;(rw[gG];omega),a.ext⟩;have o:=a8 f
 refine aJ ?_;intro c a;exact⟨by rw[Ending.returned.injEq,Value.bool.injEq];symm;simp only[dM,di,dX] at *;(rw[e2];omega),a.ext⟩;have n:=a8 aH
 refine b5 ?_;intro c a;exact⟨by rw[Ending.returned.injEq,Value.bool.injEq];symm;simp only[dM,di,dX] at *;(rw[e2];omega),a.ext⟩;have m:=a8 e
 refine aK ?_;refine aV 11 rfl (λg=>?_) (λg=>?_);have p:=aY g
 refine aR ?_;refine ao rfl pB rfl (λb d=>qj b _) ?_;refine ar ?_;refine aV 21 rfl (λh=>?_) (λh=>?_);have q:=aY h
 refine ay ?_;refine ao rfl pB rfl (λb d=>qj b _) ?_;refine ar ?_;refine aV 26 rfl (λi=>?_) (λi=>?_);have r:=aY i
 refine bw ?_;intro c a;exact⟨by rw[Ending.returned.injEq,Value.bool.injEq];symm;simp only[dM,di,dX] at *;(rw[gG];omega),a.ext⟩;have r:=a8 i
 refine aJ ?_;intro c a;exact⟨by rw[Ending.returned.injEq,Value.bool.injEq];symm;simp only[dM,di,dX] at *;(rw[e2];omega),a.ext⟩;have q:=a8 h
 refine b5 ?_;intro c a;exact⟨by rw[Ending.returned.injEq,Value.bool.injEq];symm;simp only[dM,di,dX] at *;(rw[e2];omega),a.ext⟩;have p:=a8 g
 refine aK ?_;refine aV 16 rfl (λj=>?_) (λj=>?_);have t:=aY j
 refine ay ?_;refine ao rfl pB rfl (λb d=>qj b _) ?_;refine ar ?_;refine aV 21 rfl (λk=>?_) (λk=>?_);have u:=aY k
 refine ay ?_;refine ao rfl pB rfl (λb d=>qj b _) ?_;refine ar ?_;refine aV 26 rfl (λl=>?_) (λl=>?_);have v:=aY l
 refine bw ?_;intro c a;exact⟨by rw[Ending.returned.injEq,Value.bool.injEq];symm;simp only[dM,di,dX] at *;(rw[gG];omega),a.ext⟩;have v:=a8 l
 refine aJ ?_;intro c a;exact⟨by rw[Ending.returned.injEq,Value.bool.injEq];symm;simp only[dM,di,dX] at *;(rw[e2];omega),a.ext⟩;have u:=a8 k
 refine b5 ?_;intro c a;exact⟨by rw[Ending.returned.injEq,Value.bool.injEq];symm;simp only[dM,di,dX] at *;(rw[e2];omega),a.ext⟩;have t:=a8 j
 refine eG ?_;intro c a;exact⟨by rw[Ending.returned.injEq,Value.bool.injEq];symm;simp only[dM,di,dX] at *;(rw[e2];omega),a.ext⟩
theorem Jg (w:World) (s:ed):Calls prog 181 [ru s].toArray w (Pure (.int .i64 (hR s)) w):=by
 refine aW func181 ntmps181 ?_;refine ah ?_;intro d e f;refine bo ?_;refine aj (λb=>?_) (λb=>?_);refine aK ?_;intro c a;exact⟨by rw[hR,ax bz],a.ext⟩;refine bo ?_;intro c a;exact⟨by rw[hR,ag bz],a.ext⟩
theorem Cp (w:World) (p:bl) (s:ed):Calls prog 119 [d9 p,ru s].toArray w (Pure (.bool (qi p s)) w):=by
 have j:dX s→0≤hR s∧hR s≤1099511627776:=λh=>by unfold hR;split <;> simp only[dX,dM] at h <;> omega
 obtain⟨G,g⟩ : ∃G,G=hR s:=⟨_,rfl⟩;unfold qi;rw[←g] at j ⊢
 refine aW func119 ntmps119 ?_;refine ah ?_;intro o q r;refine aq ?_;intro t u v;refine al ?_;refine ao rfl Eu rfl (λb i=>(by have h:=Jg b s;rw[←g] at h;exact h)) ?_;refine al ?_;refine ao rfl Ev rfl (λb i=>Jf b p) ?_;refine aq ?_;refine aV 10 rfl (λd=>?_) (λd=>?_);have k:=aY d
 refine ah ?_;refine ao rfl wE rfl (λb i=>yw b s) ?_;refine ar ?_;refine aV 14 rfl (λaH=>?_) (λaH=>?_);have l:=aY aH
 refine aK ?_;refine aV 19 rfl (λe=>?_) (λe=>?_);have m:=aY e
 refine aR ?_;refine aV 25 rfl (λf=>?_) (λf=>?_);have n:=aY f
 refine hh ?_;intro c a;exact⟨by rw[Ending.returned.injEq,Value.bool.injEq];symm;simp only[dM,di,dX] at *;(rw[gG];omega),a.ext⟩;have n:=a8 f
 refine bH ?_;intro c a;exact⟨by rw[Ending.returned.injEq,Value.bool.injEq];symm;simp only[dM,di,dX] at *;(rw[e2];omega),a.ext⟩;have m:=a8 e
 refine eG ?_;intro c a;exact⟨by rw[Ending.returned.injEq,Value.bool.injEq];symm;simp only[dM,di,dX] at *;(rw[e2];omega),a.ext⟩;have l:=a8 aH
 refine jc ?_;intro c a;exact⟨by rw[Ending.returned.injEq,Value.bool.injEq];symm;simp only[dM,di,dX] at *;(rw[e2];omega),a.ext⟩;have k:=a8 d
 refine w6 ?_;intro c a;exact⟨by rw[Ending.returned.injEq,Value.bool.injEq];symm;simp only[dM,di,dX] at *;(rw[e2];omega),a.ext⟩
def qk (a b:bl):Int:=if a=b then 0 else if fH a b=true then -1 else 1
theorem VB (a b:bl):decide (qk a b<0)=fH a b:=by
 unfold qk;by_cases h:a=b
 rw[ax h];subst h;unfold fH;simp
 rw[ag h];by_cases c:fH a b=true
 rw[ax c,c];rfl
 rw[ag c];rw[Bool.not_eq_true] at c
 rw[c];rfl
theorem VC (w:World) (a b:bl):
 Calls prog 132 [.agg a.enc.toArray,.agg b.enc.toArray].toArray w (λe w'=>e= .returned (.int .i64 (qk a b))∧Ext [] w w'):=by
 refine aW func132 ntmps132 ?_;refine ah ?_;intro l m n;refine aq ?_;intro o p q;refine aJ ?_;refine zf DL rfl rfl rfl ab (Ai a b) ?_;refine ah ?_;refine aj (λh=>?_) (λh=>?_);have d:a=b:=h
 refine aJ ?_;intro f c;exact⟨by unfold qk;rw[ax d],c.ext⟩;have d:a≠b:=h
 refine aK ?_;refine aV 15 rfl (λg=>?_) (λg=>?_);refine lJ ?_;intro f c;exact⟨by unfold qk fH;rw[ag d,ax (b1 (Or.inl (aY g)))],c.ext⟩;refine bw ?_;refine aV 21 rfl (λi=>?_) (λi=>?_);refine dB ?_;refine aj (λj=>?_) (λj=>?_);refine aJ ?_;intro f c;exact⟨by unfold qk fH;rw[ag d,ax (b1 (Or.inr ⟨aY i,j⟩))],c.ext⟩;refine aR ?_;intro f c;have k:=a8 g
 exact⟨by unfold qk fH;rw[ag d,ag (by simp;omega)],c.ext⟩;refine kq ?_;intro f c;have k:=a8 g
 have r:=a8 i
 exact⟨by unfold qk fH;rw[ag d,ag (by simp;omega)],c.ext⟩
theorem vA (w:World) (a b:bl):
 Calls prog 86 [.agg a.enc.toArray,.agg b.enc.toArray].toArray w (λe w'=>e= .returned (.bool (fH a b))∧Ext [] w w'):=by
 refine aW func86 ntmps86 ?_;refine ah ?_;intro d f g;refine aq ?_;intro h i j;refine aC ?_;refine ao rfl MK rfl (λw' _=>VC w' a b) ?_;refine al ?_;intro k c;exact⟨by rw[VB],c.ext⟩
theorem Jh (w:World) (a b:bl):Calls prog 59 [d9 a,d9 b].toArray w (Pure (d9 (hS a b)) w):=by
 refine aW func59 ntmps59 ?_;refine ah ?_;intro g i j;refine aq ?_;intro k l m;refine aq ?_;intro n o p;refine aC ?_;refine ao rfl uo rfl (λd q=>vA d a b) ?_;refine ar ?_;refine aj (λe=>?_) (λe=>?_);refine aJ ?_;intro f c;exact⟨by rw[hS,ax (show fH a b=true from b1 bz)];rfl,c.ext⟩;refine aR ?_;intro f c;exact⟨by rw[hS,ag (show ¬fH a b=true from λh=>absurd (aY h) bz)];rfl,c.ext⟩
theorem Cq (w:World) (p:bl) (s:ed):Calls prog 118 [d9 p,ru s].toArray w (Pure (d9 (lr p s)) w):=by
 have g:dX s→0≤hR s∧hR s≤1099511627776:=λh=>by unfold hR;split <;> simp only[dX,dM] at h <;> omega
 obtain⟨G,i⟩ : ∃G,G=hR s:=⟨_,rfl⟩;unfold lr;rw[←i] at g ⊢
 refine aW func118 ntmps118 ?_;refine ah ?_;intro r m t;refine aq ?_;intro u v x;refine aq ?_;intro y z A;refine ay ?_;refine ao rfl Eu rfl (λb j=>(by have h:=Jg b s;rw[←i] at h;exact h)) ?_;refine aK ?_;refine ao rfl Ev rfl (λb j=>Jf b p) ?_;refine ar ?_;refine aV 18 rfl (λk=>?_) (λk=>?_);refine sv ?_;intro c a;exact⟨by rw[ax (by simp only[bU,di,dX,dM] at *;omega)];rfl,a.ext⟩;refine ah ?_;refine ao rfl wE rfl (λb j=>yw b s) ?_;refine aS ?_;refine aV 23 rfl (λaH=>?_) (λaH=>?_);refine hh ?_;intro c a;exact⟨by rw[ax (by simp only[bU,di,dX,dM] at *;omega)];rfl,a.ext⟩;refine bw ?_;refine aj (λd=>?_) (λd=>?_);have n:=d
 refine bo ?_;intro c a;exact⟨by rw[ax (by simp only[bU,di,dX,dM] at *;omega)];rfl,a.ext⟩;have n:=d
 have l:di p∧dX s:=⟨Decidable.byContradiction λh=>by simp[h] at k,Decidable.byContradiction λh=>by simp[h] at aH⟩
 have m:=g l.2
 simp only[di,dX,dM] at l
 refine aK ?_;refine aj (λe=>?_) (λe=>?_);have o:=e
 refine eG ?_;intro c a;exact⟨by rw[ag (by simp only[bU,di,dX,dM] at *;omega),ax (by simp only[bU,di,dX,dM] at *;omega)];rfl,a.ext⟩;have o:=e
 refine bw ?_;refine aj (λf=>?_) (λf=>?_);have q:=f
 refine cE ?_;intro c a;exact⟨by rw[ag (by simp only[bU,di,dX,dM] at *;omega),ag (by simp only[bU,di,dX,dM] at *;omega),ax (by simp only[bU,di,dX,dM] at *;omega)];rfl,a.ext⟩;have q:=f
 refine eG ?_;intro c a;exact⟨by rw[ag (by simp only[bU,di,dX,dM] at *;omega),ag (by simp only[bU,di,dX,dM] at *;omega),ag (by simp only[bU,di,dX,dM] at *;omega)];rfl,a.ext⟩
structure eb where
 A:Option Addr
 c:Nat
 l:List bl
abbrev eb.val (r:eb):Value:= .slice r.A r.l.length r.c
abbrev eb.au (r:eb):Chunk:=Mq.au 40 cq r.A r.c r.l
structure ho where
 g:Nat
 p:eb
 most:Int
abbrev Cr (s:ho):List Value:=[s.p.val,.int .i64 s.most]
abbrev ho.an (s:ho):Chunk:=aD s.g (Cr s) 165
abbrev fR (s:ho):List Chunk:=[s.an,s.p.au]
structure rv (s:ho):Prop where
 len: (s.p.l.length:Int)≤s.most
 most:1≤s.most∧s.most≤10000
theorem Ji (w:World) (p:bl):Calls prog 87 [d9 p].toArray w (Pure (.bool (decide (di p))) w):=by
 refine aW func87 ntmps87 ?_;refine ah ?_;intro h i j;refine aJ ?_;refine aV 6 rfl (λb=>?_) (λb=>?_);have e:=aY b
 refine aK ?_;refine aV 11 rfl (λaH=>?_) (λaH=>?_);have f:=aY aH
 refine aK ?_;refine aV 16 rfl (λc=>?_) (λc=>?_);have g:=aY c
 refine bw ?_;intro d a;exact⟨by rw[Ending.returned.injEq,Value.bool.injEq];symm;simp only[dM,di] at *;(rw[gG];omega),a.ext⟩;have g:=a8 c
 refine aJ ?_;intro d a;exact⟨by rw[Ending.returned.injEq,Value.bool.injEq];symm;simp only[dM,di] at *;(rw[e2];omega),a.ext⟩;have f:=a8 aH
 refine b5 ?_;intro d a;exact⟨by rw[Ending.returned.injEq,Value.bool.injEq];symm;simp only[dM,di] at *;(rw[e2];omega),a.ext⟩;have e:=a8 b
 refine eG ?_;intro d a;exact⟨by rw[Ending.returned.injEq,Value.bool.injEq];symm;simp only[dM,di] at *;(rw[e2];omega),a.ext⟩
theorem VD (w:World) (n:Int) (h:1≤n∧n≤10000):Calls prog 37 [.int .i64 n].toArray w
 (aP (λg:Nat=> .tuple #[ptr g,.int .i64 0]) [] (λg=>fR ⟨g,⟨none,0,[]⟩,n⟩) (λ_=>True) w):=by
 refine aW func37 ntmps37 ?_;refine bw ?_;refine aV 6 rfl (λa=>?_) (λa=>?_);have d:=aY a
 refine cE ?_;intro c b
 (exfalso;omega)
 have d:=a8 a
 refine aC ?_;refine aj (λaH=>?_) (λaH=>?_);refine aJ ?_;intro c b
 (exfalso;omega)
 refine aC ?_;intro e f i;refine al ?_;intro c b;exact aP.bP e aU rfl ((b.eO 40 cq).aw ae)
theorem Jj (w:World) (s:ho) (c:bb w (fR s)) (a:rv s):Calls prog 46 [ptr s.g].toArray w
 (aP (λz:eb=>z.val) (fR s) (λz=>fR s++[z.au]) (λz=>z.l=s.p.l) w):=by
 have i:=a.len
 have j:=a.most
 refine bI func46 ntmps46 c ?_;refine gN ?_;refine pq 40 2 ?_;refine ol (E:=cq) (src:=s.p.l) (F:=λ_=>True) (xs:=[]) dQ rfl rfl rfl (λ_=>by exact cz) (λw' d=>gT (d.has cp)) (by simp only[maxLen];omega) aa (λf k=>?_);refine iX (e:=40) (sz:=2) (v:=f) aQ (λdE c9 h _ _ _ _=>?_);subst h;refine ay ?_;intro m b;simp only[dG,qw] at b ⊢
 exact aN ⟨dE,c9,s.p.l⟩ rfl b
structure vB (s z:ho):Prop where
 g:z.g=s.g
 most:z.most=s.most
 ok:rv z
def Cs (s:ho) (v:Value) (w:World):Ending→World→Prop:=aP (λ_:ho=>v) (fR s) fR (vB s) w
theorem VE (w:World) (s:ho) (n:bb w (fR s)) (b:rv s) (p:bl):Calls prog 74 [ptr s.g,d9 p].toArray w (Cs s (.tuple #[]) w):=by
 have B:=b.len
 have C:=b.most
 obtain⟨c,d⟩:=p;refine bI func74 ntmps74 n ?_;refine ah ?_;intro j D G;refine bo ?_;refine ao rfl Eg rfl (λo H=>Ji o ⟨c,d⟩) ?_;refine ay ?_;refine b2 rfl (λi=>?_) (λi=>?_);simp only[bU] at i
 refine ah ?_;intro k a;exact aN s ⟨rfl,rfl,b⟩ a;simp only[bU] at i
 refine aS ?_;refine bG [0,1,2,3,4,5,6,7,8,9] 0 [[]] ?_;refine bH ?_;refine aj (λaH=>?_) (λaH=>?_);refine al ?_;refine iX (e:=40) (sz:=2) (v:=s.p.val) cp (λI J q K _ _ _=>?_);cases q
 refine pq 40 2 ?_;refine fh 1 s.p.l.length dQ rfl rfl (.inl ⟨_,_,rfl,rfl,aa⟩) (.inr ⟨rfl,rfl⟩) aa aa ?_;refine ol (E:=cq) (src:=(s.p.l.take s.p.l.length).drop 1) (F:=λ_=>True) (xs:=[]) dQ rfl rfl rfl (λ_=>by exact cz) (λw' r=>(gT (r.has hD)).cut aa aa) (by simp only[maxLen];omega) aa (λt L=>?_);refine iX (e:=40) (sz:=2) (v:=t) aQ (λdE c9 u _ _ _ _=>?_);subst u;obtain⟨f,m⟩ : ∃f,f=(s.p.l.take s.p.l.length).drop 1:=⟨_,rfl⟩;have x:f.length=s.p.l.length - 1:=by rw[m];simp
 rw[←m,dG,qw,←x];refine ay ?_;refine ew [0,1,2,3,4,5] 3 [[(6,false,[]),(7,false,[8,9]),(10,true,[])]] (_) mixed ab (λ_ a=>a.drew) (λ_ h=>(show af _ _ [aD j _ 40,aD s.g _ 165] _ from h.aw ae)) ?_;refine aK ?_;refine dx (E:=cq) ⟨_,_⟩ dQ rfl rfl rfl rfl rfl (λy z A=>?_);refine bY (λ_=>True) (λ_ h=> .inr (h.aw ae)) (λ_ h=>aU) ?_;refine ar ?_;refine er (E:=cq) dQ rfl rfl rfl bi (λ_ _=>cz) b4 b4 (λM N=>?_);refine bY (λ_=>True) (λ_ h=> .inr ⟨.inr (h.aw ae),dj⟩) (λ_ h=>aU) ?_;refine aJ ?_;intro k a
 (refine aP.bP ⟨s.g,⟨_,_,f++[⟨c,d⟩]⟩,s.most⟩ ?_ rfl (a.aw ae);exact⟨rfl,rfl,by show (((f++[⟨c,d⟩]:List bl).length:Nat):Int)≤s.most;rw[b0,iS];omega,b.most⟩)
 refine ar ?_;refine ew [0,1,2,3,4,5] 3 [[(6,false,[]),(7,false,[8,9]),(10,true,[])]] (_) mixed ab (λ_ a=>a.drew) (λ_ h=>(show af _ _ [aD j _ 40,aD s.g _ 165] _ from h.aw ae)) ?_;refine aK ?_;refine dx (E:=cq) ⟨_,_⟩ dQ rfl rfl rfl rfl rfl (λy z A=>?_);refine bY (λ_=>True) (λ_ h=> .inr (h.aw ae)) (λ_ h=>aU) ?_;refine ar ?_;refine er (E:=cq) dQ rfl rfl rfl bi (λ_ _=>k6) b4 b4 (λO P=>?_);refine bY (λ_=>True) (λ_ h=> .inr ⟨.inr (h.aw ae),dj⟩) (λ_ h=>aU) ?_;refine aJ ?_;intro k a
 (refine aP.bP ⟨s.g,⟨_,_,s.p.l++[⟨c,d⟩]⟩,s.most⟩ ?_ rfl (a.aw ae);exact⟨rfl,rfl,by show (((s.p.l++[⟨c,d⟩]:List bl).length:Nat):Int)≤s.most;rw[b0,iS];omega,b.most⟩)
section
def VF (s:ho) (w:World):Ending→World→Prop:=aP (λi:Int × ho=> .int .i64 i.1) (fR s) (λi=>fR i.2) (λi=>vB s i.2) w
section
variable {P:Program} {n:Nat} {ops:Array Oper} {Q:cl} {rest:List Oper} {l:Fr} {d:Nat} {ty:TypeId} {pos:String} {a6:Array Edge} {H:World→Prop}
theorem VG {x y:Operand} {t e sz j:Nat} {z:List Value} {A a:Option Addr} {m k c c':Nat} (b:cY P t e sz j z) (f:k=0) (ak:Nat.blt d n=true) (o:a_ l x=some (.slice A m c)) (p:a_ l y=some (.slice a k c'))
 (h:az P n ops Q rest ((d,.int .i64 (k:Int))::l) H):az P n ops Q (⟨some d,.call ⟨.builtin .copy,#[x,y],#[t,t]⟩,ty,pos,a6,none⟩::rest) l H:=by
 subst f;obtain⟨i,fg,q,f,u,r,v⟩:=b.inf;refine da _ ak (λB w g=>?_) h;have s:Nat.min 0 m=0:=iv (bN _)
 cases A <;> cases a <;> simp[loadCells,loadCellsFrom,storeCells,execOp,resolve,invoke,builtin,g x _ o,g y _ p,Builtin.copy_,run_underlying b.e8,Builtin.lenOf,run_sizeOf q,r,s,goInt,Builtin.firstCells]
end
theorem VH (w:World) (s:ho) (B:bb w (fR s)) (b:rv s) (A:Option Addr) (n c:Nat) (L:List bl) (d:Rd cq w (λk=>k∉aB (fR s)) A n c L) (U:n≤1000000):Calls prog 48 [ptr s.g,.slice A n c].toArray w (VF s w):=by
 have x:=b.len
 have V:=b.most
 have W:=d.len
 refine bI func48 ntmps48 B ?_;refine w8 ?_;refine aj (λC=>?_) (λC=>?_);refine aK ?_;intro f a;exact aN (1,s) ⟨rfl,rfl,b⟩ a;refine bo ?_;refine b3 (ι:=Nat) (λi=>[(0,ptr s.g),(1,.slice A n c),(19,.slice A n c),(20,.int .i64 (n:Int)),(21,.int .i64 (i:Int))]) (λ_=>af w (aB (fR s)) (fR s)) (λi=>i≤n) (λi=>n - i) ?_ ?_;exact λw' m=>⟨0,bN _,(ec rfl rfl rfl rfl rfl),m⟩
 intro i hi;refine al ?_;refine aj (λD=>?_) (λD=>?_);obtain⟨v,G⟩ : ∃v,L[i]? = some v:=⟨L[i]'aa,bE _⟩;obtain⟨bX,H,I,J⟩:=d.at_ G;refine al ?_;refine bD (q:=i) dQ rfl rfl rfl H rfl aa ?_;refine cw (vs:=v.enc) em rfl rfl rfl (λX x j u K=>x.ct (J j u K) (by simp only[block_add];exact I)) ?_;refine aq ?_;intro Y Z Za;refine al ?_;refine ao rfl Eg rfl (λM Zb=>Ji M v) ?_;refine ah ?_;refine b2 rfl (λo=>?_) (λo=>?_);simp only[bU] at o
 refine bw ?_;intro f a;exact aN (1,s) ⟨rfl,rfl,b⟩ a;simp only[bU] at o
 refine aC ?_;exact bg (i+1) aa aa bO (λ_ h=>h.aw ae);have Zc:i=n:=by omega
 have N:n=s.p.l.length:=by omega
 rcases gF n with y | y
 refine bw ?_;refine VG dQ y rfl rfl rfl ?_;refine aJ ?_;intro f a;exact aN (0,s) ⟨rfl,rfl,b⟩ a;refine bw ?_;refine iX (e:=40) (sz:=2) (v:=s.p.val) bF (λO Zd P Ze _ _ Q=>?_);have r:s.p.A=O:=by injection P
 obtain⟨z,t⟩:=Q aa;refine DE (E:=cq) (g:=z) (src:=L) (F:=λk=>k∉aB (fR s)) dQ rfl (by rw[←t,←r];rfl) rfl (by rw[←t,←r];exact eo) (λw' m=>d.ext m.ext (λ_ h=>h)) aa ?_;refine aJ ?_;intro f a;have R:cq.all L++(cq.all s.p.l).drop (n*cq.sz)=cq.all L:=by rw[n0 (by rw[cq.dH,N];exact cd _),fJ]
 have S:L.length=s.p.l.length:=by omega
 have T:s.p.A=some ⟨z,0,none⟩:=r.trans t
 rw[R] at a
 refine aP.bP (0,⟨s.g,⟨s.p.A,s.p.c,L⟩,s.most⟩) ⟨rfl,rfl,by show ((L.length:Nat):Int)≤s.most;omega,b.most⟩ rfl ?_;simp only[fR,ho.an,Cr,eb.val,eb.au,Mq.au,S,T] at a ⊢
 exact a.aw ae
end
end Go.Proofs.YtkeokgcdnfjaaaaGreatDoor.Mq
namespace Go.Proofs.YtkeokgcdnfjaaaaGreatDoor.Mq
open Go Go.RowKit Go.Proofs
section
section
variable {P:Program} {n:Nat} {ops:Array Oper} {Q:cl} {rest:List Oper} {l:Fr} {d:Nat} {ty:TypeId} {pos:String} {a6:Array Edge}
variable {b:World} {S:List Nat} {cs:List Chunk}
theorem Jk {α:Type} {E:bA α} {x y:Operand} {t e B:Nat} {z:List Value} {g j m c f c1:Nat} {xs:List Value} {a:α} {te:TypeId} {cs':List Chunk} (r:cY P t e E.sz B z) (ak:Nat.blt d n=true)
 (C:a_ l x=some (.slice (some ⟨g,0,none⟩) j c)) (D:a_ l y=some (.slice (some ⟨f,0,none⟩) 1 c1)) (F:Has cs (aD f (E.enc a) te)) (G:j<m) (U:m≤c)
 (s:bn cs (own e E.sz (.slice (some ⟨g,0,none⟩) m c) m xs) (own e E.sz (.slice (some ⟨g,0,none⟩) m c) m (dd xs (j*E.sz) (E.enc a))) cs')
 (h:az P n ops Q rest ((d,.slice (some ⟨g,0,none⟩) (j+1) c)::l) (af b S cs')):
 az P n ops Q (⟨some d,.call ⟨.builtin .append,#[x,y],#[t,t]⟩,ty,pos,a6,none⟩::rest) l (af b S cs):=by
 obtain⟨i,fg,H,V,W,I,X⟩:=r.inf;refine ht ak λY w v q=>?_
 have J:=q.has s.has
 have K:xs.length=m*E.sz:=J.1
 have A: (j+1)*E.sz≤m*E.sz:=kT _ G
 rw[ob] at A
 obtain⟨w',L,M⟩:=q.r4 (P:=P) (xs:=xs) (o:=j*E.sz) (vs:=E.enc a) (by rw[E.len,K];exact A) (E.iW a) s;have N: (Builtin.firstCells E.sz 1 (.slice (some ⟨f,0,none⟩) 1 c1)).run P w= .ok (E.enc a).toArray w:=by
  have:=run_loadCellsFrom (P:=P) (w:=w) (p:=⟨f,0,none⟩) (E.enc a) 0 #[] (λk u O=>by
   have R:=q.eM F O
   rw[Addr.add_lit];simpa using R)
  rw[E.len] at this
  simpa [Builtin.firstCells,loadCells] using this
 refine⟨.slice (some ⟨g,0,none⟩) (j+1) c,w',?_,h.at M⟩;have T:j+1≤c:=by omega
 simp[execOp,resolve,invoke,builtin,v x _ C,v y _ D,Builtin.append_,run_underlying r.e8,Builtin.lenOf,run_sizeOf H,I,N,T,Addr.add_lit,L]
end
theorem Ct {e sz m c j:Nat} {A:Option Addr} {xs:List Value} {w:World} (d:j≤m) (h: (own e sz (.slice A m c) m xs).pred w): (own e sz (.slice A j c) j (xs.take (j*sz))).pred w:=by
 obtain⟨f,i⟩:=h;have k:j*sz≤m*sz:=kT _ d
 refine⟨by rw[dn,f];omega,?_⟩;rcases i with ⟨l,u⟩ | ⟨g,cap,am,n,o,p,v,q,r,s⟩
 left
 injection l with a t b
 have:j=0:=by omega
 subst this;exact⟨by rw[a,b],rfl⟩;right
 injection n with a t b
 refine⟨g,cap,am,by rw[a,b],o,p,aa,q,r,?_⟩;rw[←s,List.take_take,iv k]
end
section
def gz (e:TypeId) (sz:Nat) (A:Option Addr) (m c:Nat) (xs:List Value):Chunk where
 ce:=(Value.slice A m c).ownBlock.toList
 pred w:=xs.length=m*sz∧((A=none∧m=0∧c=0)∨ ∃g o am,A=some ⟨g,o,none⟩∧w.heap[g]? = some (.cells am e (0,0))∧m≤c∧c≤maxLen∧am.size=o+c*sz∧(am.toList.drop o).take (m*sz)=xs)
 low w h k a:=by
  rcases h.2 with ⟨rfl,_⟩ | ⟨g,o,am,rfl,b,_⟩
  simp[Value.ownBlock] at a
  simp[Value.ownBlock] at a;subst a;exact (lz.1 b).1
 loc w w' h ai:=by
  refine⟨ai.1,?_⟩
  rcases ai.2 with d | ⟨g,o,am,rfl,b,rest⟩
  exact .inl d
  exact .inr ⟨g,o,am,rfl,by rw[h g (by simp[Value.ownBlock])];exact b,rest⟩
theorem VI (e sz:Nat) (w:World): (gz e sz none 0 0 []).pred w:=⟨by simp,.inl ⟨rfl,rfl,rfl⟩⟩
theorem VJ (e sz:Nat) (A:Option Addr) (m c:Nat) (xs:List Value): (gz e sz A m c xs).ce.Nodup:=by
 show (Value.slice A m c).ownBlock.toList.Nodup
 cases (Value.slice A m c).ownBlock <;> simp
theorem VK {e:Nat} {α:Type} {E:bA α} {A:Option Addr} {m c:Nat} {l:List α} {w:World} (h: (gz e E.sz A m c (E.all l)).pred w) (r:l.length=m) {bX:Addr} (d:A=some bX) {k:Nat} {a:α} (i:l[k]? = some a):
 ∀j u,(E.enc a)[j]? = some u→w.cell? ((bX.add (k*E.sz)).add j)=some u:=by
 intro j u n;rcases h.2 with ⟨f,_⟩ | ⟨g,o,am,f,p,s,t,v,q⟩
 rw[f] at d;cases d
 rw[f] at d;cases d
 have b:=E.lE i n
 rw[←q,is] at b
 split at b
 rw[mm] at b
 rw[Addr.add_lit,Addr.add_lit,cell_of_row w g _ am e (0,0) p,Nat.add_assoc];simpa using b
 cases b
theorem yx {e sz:Nat} {A:Option Addr} {m c:Nat} {xs:List Value} {w:World} (h: (gz e sz A m c xs).pred w):m≤c∧c≤maxLen∧(0<m→ ∃g o,A=some ⟨g,o,none⟩):=by
 rcases h.2 with ⟨a,i,b⟩ | ⟨g,o,am,a,j,d,f,_⟩
 exact⟨aa,by rw[b];exact bN _,λh=>by omega⟩;exact⟨d,f,λ_=>⟨g,o,a⟩⟩
theorem VL {e sz:Nat} {A:Option Addr} {m c:Nat} {xs:List Value} {w:World} (l:1≤m) (h: (gz e sz A m c xs).pred w): (gz e sz (A.map (·.add (1*sz))) (m - 1) (c - 1) (xs.drop sz)).pred w:=by
 obtain⟨m,rfl⟩ : ∃k,m=k+1:=⟨m - 1,aa⟩;obtain⟨a,d⟩:=h;rw[ob] at a
 refine⟨by rw[fz,a,uc,uc],?_⟩;rcases d with ⟨_,b,_⟩ | ⟨g,o,am,b,f,n,p,i,j⟩
 omega
 obtain⟨c,rfl⟩ : ∃k,c=k+1:=⟨c - 1,aa⟩;rw[ob] at i
 refine .inr ⟨g,o+sz,am,by rw[b];simp[Addr.add_lit],f,aa,aa,by rw[uc];omega,?_⟩;rw[←j,uc,ob,List.drop_take,mj,uc]
theorem Jl (e sz:Nat) (A:Option Addr) (m c b c' k:Nat) (xs df:List Value): (gz e sz (A.map (·.add k)) m c xs).ce=(gz e sz A b c' df).ce:=by
 show (Value.slice (A.map (·.add k)) m c).ownBlock.toList=(Value.slice A b c').ownBlock.toList
 cases A with
 | none=>rfl
 | some a=>simp[Value.ownBlock,block_add]
section
variable {b:World} {S:List Nat} {cs cs':List Chunk} {w:World} {c c':Chunk}
theorem af.conv (h:af b S cs w) (a:bn cs c c' cs') (d:c'.ce=c.ce) (ai:c.pred w→c'.pred w):af b S cs' w:=by
 refine h.hV a (Ext.refl _ _) (ai (h.has a.has)) (λk e=> .inl (d▸e)) ?_;rw[d];obtain⟨l1,hb,rfl,_⟩:=a.split;have:=h.nodup
 rw[ix,ff,fK,fK] at this
 exact this.2.1.1
theorem VM {α:Type} {l:List α} {k:Nat} {c:α} (a:l[k]? = some c):List.Perm l (c::l.eraseIdx k):=by
 have b:=(cU.1 a).1
 have d:=(cU.1 a).2
 conv=>lhs;rw[←iT k l]
 rw[kR b,d,List.eraseIdx_eq_take_drop_succ];exact n_
theorem VN {α:Type} {l:List α} {k:Nat} (c:α) (a:k<l.length):List.Perm (c::l.eraseIdx k) (l.set k c):=by
 rw[qz,ax a,List.eraseIdx_eq_take_drop_succ];exact List.perm_middle.symm
theorem af.pick {l:List Chunk} {k:Nat} (h:af b S (aT l::cs) w) (a:l[k]? = some c):af b S (c::aT (l.eraseIdx k)::cs) w:=by
 have d:af b S (c::(l.eraseIdx k++cs)) w:=h.k4.perm ((VM a).append_right cs)
 have e:af b S (l.eraseIdx k++c::cs) w:=d.perm List.perm_middle.symm
 exact (e.close' (l:=l.eraseIdx k)).perm (List.Perm.swap _ _ _)
theorem af.Jm {l:List Chunk} {k:Nat} (h:af b S (c::aT (l.eraseIdx k)::cs) w) (a:k<l.length):af b S (aT (l.set k c)::cs) w:=by
 have d:af b S (aT (l.eraseIdx k)::c::cs) w:=h.perm (List.Perm.swap _ _ _)
 have e:af b S (l.eraseIdx k++c::cs) w:=d.k4
 have ai:List.Perm (l.eraseIdx k++c::cs) (l.set k c++cs):=List.perm_middle.trans ((VN c a).append_right cs)
 exact (e.perm ai).close'
theorem af.Jn {A:Option Addr} {m c1:Nat} {e sz:Nat} {xs:List Value} (h:af b S cs w) (a:Has cs (gz e sz A m c1 xs)):m≤c1∧c1≤maxLen∧(0<m→ ∃g o,A=some ⟨g,o,none⟩):=yx (h.has a)
end
section
variable {P:Program} {n:Nat} {ops:Array Oper} {Q:cl} {rest:List Oper} {l:Fr} {d:Nat} {ty:TypeId} {pos:String} {a6:Array Edge}
variable {b:World} {S:List Nat} {cs cs':List Chunk}
theorem Cu {c c':Chunk} (a:bn cs c c' cs') (d:c'.ce=c.ce) (ai: ∀w,c.pred w→c'.pred w) (h:az P n ops Q rest l (af b S cs')):az P n ops Q rest l (af b S cs):=
 ha h (Sub.refl _) (λw e=>e.conv a d (ai w))
theorem Cv {a:Code} {L:List Chunk} {c:Chunk} {k:Nat} (d:bv cs (aT L) cs') (e:L[k]? = some c) (h:dc P n a Q l (af b S (c::aT (L.eraseIdx k)::cs'))):dc P n a Q l (af b S cs):=
 cG h (Sub.refl _) (λ_ f=>(f.perm d.perm).pick e)
theorem vC {L:List Chunk} {c:Chunk} {k:Nat} (a:bv cs (aT L) cs') (d:L[k]? = some c) (h:az P n ops Q rest l (af b S (c::aT (L.eraseIdx k)::cs'))):az P n ops Q rest l (af b S cs):=
 ha h (Sub.refl _) (λ_ e=>(e.perm a.perm).pick d)
theorem VO {A:Option Addr} {m c e sz:Nat} {xs:List Value} (d:Has cs (gz e sz A m c xs)) (h:m≤c∧c≤maxLen∧(0<m→ ∃g o,A=some ⟨g,o,none⟩)→az P n ops Q rest l (af b S cs)):az P n ops Q rest l (af b S cs):=λw a=>h (a.Jn d) w a
theorem yy {a:Code} {A:Option Addr} {m c e sz:Nat} {xs:List Value} (f:Has cs (gz e sz A m c xs)) (h:m≤c∧c≤maxLen∧(0<m→ ∃g o,A=some ⟨g,o,none⟩)→dc P n a Q l (af b S cs)):dc P n a Q l (af b S cs):=λw d=>h (d.Jn f) w d
theorem VP {w:World} {t ty e sz E:Nat} {z:List Value} (f:cY P t e sz E z) {A:Option Addr} {m c:Nat} {xs:List Value} (h: (gz e sz A m c xs).pred w) {a:Addr} {c1:Nat} {news:List Value} (b:news.length=sz)
 (s: ∀j u,news[j]? = some u→w.cell? (a.add j)=some u) (O:aI news) (F:m+1≤maxLen) (G: (m+1)*E≤140737488355328):
 ∃p c' w',(Builtin.append_ #[t,t] ty #[.slice A m c,.slice (some a) 1 c1]).run P w= .ok (.slice p (m+1) c') w'∧(gz e sz p (m+1) c' (xs++news)).pred w'∧w.grownBy w' (Value.slice A m c).ownBlock∧
  ((Value.slice p (m+1) c').ownBlock=(Value.slice A m c).ownBlock∨(Value.slice p (m+1) c').ownBlock=some w.heap.size):=by
 obtain⟨i,fg,x,H,Q,R,S⟩:=f.inf;subst R;have T:fg.cells.size=i.size:=by rw[←lA,Q,f.len]
 have q: (xs++news).length=(m+1)*i.size:=by rw[b0,h.1,b,ob]
 have U: ((m+1 :Nat):Int)≤9223372036854775807:=by simp only[maxLen] at F;omega
 have I: ∀d,d<m+1→(gz e i.size (some ⟨w.heap.size,0,none⟩) (m+1) (grownCap w (m+1) d e) (xs++news)).pred (w.drew.alloc (.cells (xs.toArray++news.toArray++Builtin.zeroCells fg.cells (grownCap w (m+1) d e - (m+1))) e)):=by
  intro d Ze;have V:=grownCap_ge w (m+1) d e
  have y:=grownCap_le_maxLen w (m+1) d e F
  refine⟨q,.inr ⟨w.heap.size,0,_,rfl,heap_alloc_new w.drew _,V,y,?_,?_⟩⟩;simp only[Array.size_append,List.size_toArray,size_zeroCells,T,h.1,b,dG];rw[←ob,←iU];congr 1
  omega
  simp only[Array.toList_append,e0,n1];rw[←e0,←q];exact List.take_left
 have J: ∀(o:Obj) (row:Option Nat),w.grownBy (w.drew.alloc o) row:=λo row=>⟨rfl,rfl,rfl,by simp,λk B _=>heap_alloc_old w.drew o B⟩
 rcases h.2 with ⟨rfl,rfl,rfl⟩ | ⟨g,o,am,rfl,K,Zf,y,r,L⟩
 have W:xs=[]:=iR (by simpa using h.1)
 subst W;have C:=Go.run_append_nil (P:=P) (w:=w) t ty e i fg f.e8 x H a 1 c1 news (by rw[b,Nat.one_mul]) s aa aa (by rw[dG] at G;omega)
 have M:=I 0 aa
 simp only[ir,dG] at M
 exact⟨_,_,_,C,M,J _ _,.inr rfl⟩;by_cases D:m+1≤c
 have X: (m+1)*i.size≤c*i.size:=kT _ D
 rw[ob] at X
 have Y:=run_firstCells_some (P:=P) (w:=w) i.size 1 a 1 c1 news (by rw[b,Nat.one_mul]) s
 have Z:w.heap[g]? = some (.cells am.toList.toArray e (0,0)):=by simpa using K
 obtain⟨w',Za,N,l⟩:=y4 (P:=P) news am.toList w (o+m*i.size) 0 Z (by rw[b,lA,r];omega) O;rw[Nat.add_zero] at N
 have Zb: (o+m*i.size)+news.length≤am.toList.length:=by rw[b,lA,r];omega
 refine⟨some ⟨g,o,none⟩,c,w',?_,⟨q,.inr ⟨g,o,_,rfl,N,D,y,?_,?_⟩⟩,?_,.inl rfl⟩;simp[Builtin.append_,run_underlying f.e8,sizeOf,typeInfo,x,Builtin.lenOf,D,Y,Addr.add_lit,Za]
 rw[List.size_toArray,Dr,lA,r];show ((dd am.toList (o+m*i.size) news).drop o).take ((m+1)*i.size)=xs++news
 rw[iY _ Zb,e0,List.drop_append_of_le_length (by rw[dn,lA,r];omega),List.drop_take,show o+m*i.size - o=m*i.size by omega,L,←e0,←q];exact List.take_left;exact⟨l.os,l.tape,l.output,l.size,λk B Zc=>l.block k B (by simpa [Value.ownBlock] using Zc)⟩;have Zd: ∀j v,xs[j]? = some v→w.cell? ((⟨g,o,none⟩ :Addr).add j)=some v:=by
  intro j v n;rw[Addr.add_lit,cell_of_row w g _ am e (0,0) K];rw[←L,is] at n
  split at n
  rw[mm] at n;simpa using n
  cases n
 have C:=run_append_grow (P:=P) (w:=w) t ty e i fg f.e8 x H ⟨g,o,none⟩ m c xs h.1 Zd a 1 c1 news (by rw[b,Nat.one_mul]) s aa U (growslice_fits aa (by rw[S];exact G))
 exact⟨_,_,_,C,I c aa,J _ _,.inr rfl⟩
theorem VQ {x y:Operand} {t e sz p:Nat} {z:List Value} {A:Option Addr} {m c:Nat} {xs:List Value} {i c1:Nat} {vs:List Value} {te:TypeId} {cs':Option Addr→Nat→List Chunk} (s:cY P t e sz p z) (ak:Nat.blt d n=true)
 (v:a_ l x=some (.slice A m c)) (B:a_ l y=some (.slice (some ⟨i,0,none⟩) 1 c1)) (C:Has cs (aD i vs te)) (D:vs.length=sz) (E:aI vs) (F:m+1≤maxLen) (G: (m+1)*p≤140737488355328)
 (q: ∀f c',bn cs (gz e sz A m c xs) (gz e sz f (m+1) c' (xs++vs)) (cs' f c'))
 (h: ∀f c',az P n ops Q rest ((d,.slice f (m+1) c')::l) (af b S (cs' f c'))):
 az P n ops Q (⟨some d,.call ⟨.builtin .append,#[x,y],#[t,t]⟩,ty,pos,a6,none⟩::rest) l (af b S cs):=by
 refine ht ak λM w r o=>?_
 obtain⟨f,c',w',H,I,J,K⟩:=VP (P:=P) (ty:=ty) s (o.has (q A c).has) (a:=⟨i,0,none⟩) (c1:=c1) D (λj u L=>by
  rw[Addr.add_lit];exact o.eM C (by simpa using L)) E F G
 refine⟨_,w',?_,(h f c').at (o.hV (q f c') (Ext.uf J) I ?_ (VJ _ _ _ _ _ _))⟩;simp[execOp,resolve,invoke,builtin,r x _ v,r y _ B,H]
 intro k g;replace g: (Value.slice f (m+1) c').ownBlock=some k:=iV.1 g
 rcases K with h | h
 exact .inl (iV.2 (h▸g));rw[h] at g;cases g;exact .inr (cd _)
theorem Jo {H:World→Prop} {x:Operand} {hi:Option Operand} {t e len sz:Nat} {g o:Nat} (m:Nat) (b:P.underlying t=some (.array len e)) (c: ∀w,(Go.sizeOf e).run P w= .ok sz w) (ak:Nat.blt d n=true) (f:a_ l x=some (.pointer (some ⟨g,o,none⟩)))
 (j: (∃q u,hi=some q∧a_ l q=some (.int .i64 u)∧u=(m:Int))∨hi=none∧m=len) (k:m≤len)
 (h:az P n ops Q rest ((d,.slice (some ⟨g,o,none⟩) m len)::l) H):az P n ops Q (⟨some d,.slice t x none hi none,ty,pos,a6,none⟩::rest) l H:=by
 refine da _ ak (λr w a=>?_) h;have i: (⟨g,o,none⟩ :Addr).add 0=⟨g,o,none⟩:=by rw[Addr.add_lit];rfl
 rcases j with ⟨q,u,rfl,p,rfl⟩ | ⟨rfl,rfl⟩
 simp[execOp,a x _ f,a q _ p,Instr.sliceAt,run_underlying b,Instr.sureAddr,Instr.sliceBounds,Instr.sliceBound,asIntOf,c,k,i]
 simp[execOp,a x _ f,Instr.sliceAt,run_underlying b,Instr.sureAddr,Instr.sliceBounds,c,i]
theorem Jp {α:Type} {E:bA α} {x y:Operand} {t e L:Nat} {z:List Value} {g o m c:Nat} {xs:List Value} {te:TypeId} {A:Option Addr} {k c':Nat} {src:List α} {F:Nat→Prop} {cs':List Chunk} (r:Nat) (M:r=min k m) (f:cY P t e E.sz L z) (ak:Nat.blt d n=true)
 (N:a_ l x=some (.slice (some ⟨g,o,none⟩) m c)) (O:a_ l y=some (.slice A k c')) (a:bn cs (aD g xs te) (aD g (dd xs o (E.all (src.take r))) te) cs')
 (R: ∀w,af b S cs w→Rd E w F A k c' src) (Zg:o+m*E.sz≤xs.length)
 (h:az P n ops Q rest ((d,.int .i64 (r:Int))::l) (af b S cs')):
 az P n ops Q (⟨some d,.call ⟨.builtin .copy,#[x,y],#[t,t]⟩,ty,pos,a6,none⟩::rest) l (af b S cs):=by
 obtain⟨i,fg,T,Zh,Zi,U,Zj⟩:=f.inf;refine ht ak λZk w B C=>?_
 have q:=R w C
 have V:r≤k:=by omega
 have Zl:r*E.sz≤m*E.sz:=kT _ aa
 have s: (E.all (src.take r)).length=r*E.sz:=by rw[E.dH,dn,q.len,iv V]
 obtain⟨w',W,X⟩:=C.store (P:=P) (o:=o) (vs:=E.all (src.take r)) (by rw[s];omega) (E.wh _) a;have Y:Nat.min k m=r:=M.symm
 have Z: (Builtin.firstCells E.sz r (.slice A k c')).run P w= .ok (E.all (src.take r)).toArray w:=by
  rcases gF r with D | D
  subst D;cases A <;> simp[Builtin.firstCells,bA.all,loadCells,loadCellsFrom]
  obtain⟨bX,rfl,_,Za⟩:=q.cells aa;have:=run_loadCellsFrom (P:=P) (w:=w) (p:=bX) (E.all (src.take r)) 0 #[] (λj u a=>by
   have Zb:j<r*E.sz:=by
    have:=(cU.1 a).1
    rwa [s] at this
   have G:0<E.sz:=f.pos
   have Zc:j/E.sz<r:=(Nat.div_lt_iff_lt_mul G).2 Zb
   have Zd:=iw j G
   have Ze:=Nat.div_add_mod j E.sz
   have Zf:j/E.sz<src.length:=by rw[q.len];omega
   obtain⟨a0,H⟩ : ∃a0,src[j/E.sz]? = some a0:=⟨src[j/E.sz],bE Zf⟩;obtain⟨I,J⟩ : ∃I,(E.enc a0)[j%E.sz]? = some I:=⟨(E.enc a0)[j%E.sz]'(by rw[E.len];exact Zd),bE _⟩;have v:=E.lE (l:=src.take r) (by rw[is,ax Zc];exact H) J
   have K:j/E.sz*E.sz+j%E.sz=j:=by rw[qC];exact Ze
   rw[K,a] at v
   simp only[dz] at v
   subst v;have:=Za _ _ _ _ H J
   rw[add_add,K] at this
   rw[dG];exact this)
  rw[s] at this
  simpa [Builtin.firstCells,loadCells] using this
 refine⟨.int .i64 (r:Int),w',?_,h.at X⟩;simp[execOp,resolve,invoke,builtin,B x _ N,B y _ O,Builtin.copy_,run_underlying f.e8,Builtin.lenOf,run_sizeOf T,U,Y,Z,goInt,W]
end
end
end Go.Proofs.YtkeokgcdnfjaaaaGreatDoor.Mq
namespace Go.Proofs.YtkeokgcdnfjaaaaGreatDoor.Mq
open Go Go.RowKit Go.Proofs Tryz
theorem vD (A:Option Addr) (c:Nat): (if c=0 then A else A.map (λx=>x.add (0*2)))=A:=by
 split
 rfl
 cases A with
 | none=>rfl
 | some a=>simp[Addr.add]
theorem bA.Cw {α:Type} (E:bA α) (l:List α) (j:Nat):E.all (l.take j)=(E.all l).take (j*E.sz):=by
 conv=>rhs;rw[←iT j l,E.all_append]
 by_cases h:j≤l.length
 rw[rS (by rw[E.dH,dn,iv h])];rw[eu (l:=l) aa,n0 aa];show _=(E.all l++[]).take _
 rw[fJ,eu (by rw[E.dH];exact kT _ aa)]
theorem VR {w:World} {A:Option Addr} {c j:Nat} {L:List bl} (a:j≤L.length) (h: (Mq.au 40 cq A c L).pred w): (Mq.au 40 cq A c (L.take j)).pred w:=by
 have b:=Ct (e:=40) (sz:=cq.sz) a h
 rw[←bA.Cw] at b
 show w.ownsRow 0 _ _ (.slice A (L.take j).length c) (L.take j).length _
 rw[dn,iv a];exact b
theorem VS (w:World) (s:ho) (N:bb w (fR s)) (B:rv s) (x:ed):Calls prog 73 [ptr s.g,ru x].toArray w (Cs s (.tuple #[]) w):=by
 have o:=B.len
 have r:=B.most
 obtain⟨g,⟨A,c,l⟩,most⟩:=s;dsimp only at o r
 refine bI func73 ntmps73 N ?_;refine ah ?_;intro H Zg Zh;refine bo ?_;refine ao rfl wE rfl (λn C=>yw n x) ?_;refine ay ?_;refine b2 rfl (λO=>?_) (λO=>?_);refine ah ?_;intro P D;exact aN ⟨g,⟨A,c,l⟩,most⟩ ⟨rfl,rfl,B⟩ D;refine aK ?_;refine fh 0 0 dQ rfl rfl (.inr ⟨rfl,rfl⟩) (.inl ⟨_,_,rfl,rfl,rfl⟩) aa aa ?_;rw[vD];refine cE ?_;refine b3 (ι:=Nat × Nat × List bl) (λt=>[(0,ptr g),(3,ptr H),(4,.slice A t.2.1 c),(22,.slice A l.length c),(23,.int .i64 (l.length:Int)),(24,.int .i64 (t.1 :Int))]) (λt=>af w (aB (fR ⟨g,⟨A,c,l⟩,most⟩)) [aD H x.enc 179,aD g [.slice A l.length c,.int .i64 most] 165,own 40 cq.sz (.slice A l.length c) l.length (cq.all t.2.2)]) (λt=>t.1≤l.length∧t.2.1≤t.1∧t.2.2.length=l.length) (λt=>l.length - t.1) ?_ ?_;exact λw' Q=>⟨(0,0,l),⟨bN _,cd _,rfl⟩,(hg rfl rfl rfl rfl rfl rfl),Q⟩
 rintro⟨i,j,L⟩ ⟨hi,R,p⟩;dsimp only at hi R p ⊢
 obtain⟨W,I⟩ : ∃W,W=aB (fR ⟨g,⟨A,c,l⟩,most⟩):=⟨_,rfl⟩;unfold Cs;have S: ∀(v:Value) (y:ho) (w':World),vB ⟨g,⟨A,c,l⟩,most⟩ y→af w W (fR y) w'→aP (λ_:ho=>v) (fR ⟨g,⟨A,c,l⟩,most⟩) fR (vB ⟨g,⟨A,c,l⟩,most⟩) w (.returned v) w':=λv y w' o r=>aP.bP y o rfl (I▸r)
 rw[←I];refine al ?_;refine aj (λT=>?_) (λT=>?_);obtain⟨⟨b,d⟩,U⟩ : ∃v,L[i]? = some v:=⟨L[i]'aa,bE _⟩;refine hv (e:=40) (sz:=2) (v:= .slice A l.length c) cp (λZi Zj J Zk _ _ V=>?_);obtain⟨z,X⟩:=V aa;have f:A=some ⟨z,0,none⟩:=by injection J with K Y Z;exact K.trans X
 have M:l.length≤c:=by injection J with K Y Z;omega
 refine al ?_;refine bD (q:=i) dQ rfl rfl rfl f rfl aa ?_;refine cw (vs:=bl.enc ⟨b,d⟩) em rfl rfl rfl (λZa o k u Zb=>(show af _ _ [_,_,own 40 cq.sz (.slice (some ⟨z,0,none⟩) l.length c) l.length (cq.all L)] Za from f▸o).kX (E:=cq) (Has.tail (Has.tail Has.head)) U k u Zb) ?_;refine aq ?_;intro Zl Zm Zn;refine aR ?_;refine aV 31 rfl (λF=>?_) (λF=>?_);have Zc:=aY F
 refine ay ?_;refine ao rfl zC rfl (λn C=>Cp n ⟨b,d⟩ x) ?_;refine ah ?_;refine aj (λaH=>?_) (λaH=>?_);simp only[bU] at aH
 refine aK ?_;exact bg (i+1,j,L) ⟨aa,by dsimp only;omega,p⟩ bm bO (λ_ h=>h.aw ae);simp only[bU] at aH
 refine al ?_;refine ao rfl zB rfl (λn C=>Cq n ⟨b,d⟩ x) ?_;refine aq ?_;intro G Zd Ze;refine Jk (E:=cq) (te:=40) (g:=z) (j:=j) (m:=l.length) (a:=lr ⟨b,d⟩ x) (xs:=cq.all L) dQ rfl (by rw[←f];rfl) rfl aQ aa M (by rw[←f];exact jb) ?_;rw[←f];refine aK ?_
 (have _:=G;refine bg (i+1,j+1,L.set j (lr ⟨b,d⟩ x)) ⟨aa,by dsimp only;omega,by simpa using p⟩ bm (hg rfl rfl rfl rfl rfl rfl) (λ_ h=>?_);rw[show 2=cq.sz from rfl,bA.iY cq (lr ⟨b,d⟩ x) (show j<L.length by omega)] at h;exact h.aw ae)
 have Zc:=a8 F
 refine bH ?_;refine ao rfl zB rfl (λn C=>Cq n ⟨b,d⟩ x) ?_;refine aq ?_;intro G Zd Ze;refine Jk (E:=cq) (te:=40) (g:=z) (j:=j) (m:=l.length) (a:=lr ⟨b,d⟩ x) (xs:=cq.all L) dQ rfl (by rw[←f];rfl) rfl aQ aa M (by rw[←f];exact jb) ?_;rw[←f];refine aK ?_
 (have _:=G;refine bg (i+1,j+1,L.set j (lr ⟨b,d⟩ x)) ⟨aa,by dsimp only;omega,by simpa using p⟩ bm (hg rfl rfl rfl rfl rfl rfl) (λ_ h=>?_);rw[show 2=cq.sz from rfl,bA.iY cq (lr ⟨b,d⟩ x) (show j<L.length by omega)] at h;exact h.aw ae)
 refine bH ?_;intro P D;refine S _ ⟨g,⟨A,c,L.take j⟩,most⟩ _ ⟨rfl,rfl,by show (((L.take j).length:Nat):Int)≤most;rw[dn];omega,r⟩ ?_;have Zf: (L.take j).length=j:=by rw[dn];omega
 simp only[fR,ho.an,Cr,eb.val,eb.au,Zf];exact (D.conv (c:=own 40 cq.sz (.slice A l.length c) l.length (cq.all L)) (c':=Mq.au 40 cq A c (L.take j)) k6 (by cases A <;> rfl) (λh=>VR aa (by show World.ownsRow _ 0 _ _ (.slice A L.length c) L.length _;rw[p];exact h))).aw ae
end Go.Proofs.YtkeokgcdnfjaaaaGreatDoor.Mq
