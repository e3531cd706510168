/- part 13 of the proof -/
import Derived.Test.YtkeokgcdnfjaaaaGreatDoorQ12
namespace Go.Proofs.YtkeokgcdnfjaaaaGreatDoor.Mq
open Go Go.RowKit Go.Proofs Tryz
def hj (L:List bh) (q:Nat) (m:List UInt8):List bh:=match L[q]? with | some d=>L.set q (F5 d m) | none=>L
def ez (L:List bh) (x r:Int):List bh:=
 if x<0∨(L.length:Int)≤x then L else
 match L[x.toNat]? with
 | none=>L
 | some c=>
  if c.r=0∨dw r≠0 then L else
  if 32<(c.more++fM r).length then L else
  hj (if c.half=1 then hj L (x.toNat+1) (c.more++fM r) else if c.half=2 then hj L (x.toNat - 1) (c.more++fM r) else L) x.toNat (c.more++fM r)
theorem AF (L:List bh) (q:Nat) (m:List UInt8): (hj L q m).length=L.length:=by
 unfold hj;split <;> simp
theorem fB (L:List bh) (x r:Int): (ez L x r).length=L.length:=by
 unfold ez;split
 rfl
 split
 rfl
 split
 rfl
 split
 rfl
 rw[AF];split
 exact AF _ _ _;split
 exact AF _ _ _;rfl
theorem PT {L:List bh}:de L=L→ ∀q c,L[q]? = some c→(c.half=1→q+1<L.length)∧(c.half=2→0<q):=by
 fun_induction de L with
 | case1=>intro _ q c h;simp at h
 | case2 c=>
  intro b q d h;obtain⟨rfl,rfl⟩ :q=0∧c=d:=by
   cases q with
   | zero=>simpa using h
   | succ q=>simp at h
  have a: (if c.half=0∨c.half=3 then c else gO c.at_)=c:=by simpa using b
  constructor
  intro f;rw[ag aa] at a
  rw[←a] at f;simp[gO] at f
  intro f;rw[ag aa] at a
  rw[←a] at f;simp[gO] at f
 | case3 c d l j g=>
  intro b q e h;have i:de (d::l)=d::l:=by simpa using b
  cases q with
  | zero=>
   have:c=e:=by simpa using h
   subst this;exact⟨λa=>by omega,λa=>by omega⟩
  | succ q=>
   have:=g i q e (by simpa using h)
   exact⟨λa=>by have:=this.1 a;simp at this ⊢;omega,λ_=>by omega⟩
 | case4 c d l j ai g=>
  intro b q e h;have i:de l=l:=by simpa using b
  match q,h with
  | 0,h=>
   have:c=e:=by simpa using h
   subst this;refine⟨λ_=>by simp,λf=>?_⟩;simp[pR] at ai
   omega
  | 1,h=>
   have:d=e:=by simpa using h
   subst this;refine⟨λa=>?_,λ_=>by omega⟩;simp[pR] at ai
   omega
  | q+2,h=>
   have:=g i q e (by simpa using h)
   exact⟨λa=>by have:=this.1 a;simp;omega,λ_=>by omega⟩
 | case5 c d l j ai g=>
  intro b q e h;have k:gO c.at_=c∧de (d::l)=d::l:=by simpa using b
  cases q with
  | zero=>
   have:c=e:=by simpa using h
   subst this;have m:c.half=0:=by rw[←k.1];rfl
   exact⟨λa=>by omega,λa=>by omega⟩
  | succ q=>
   have:=g k.2 q e (by simpa using h)
   exact⟨λa=>by have:=this.1 a;simp at this ⊢;omega,λ_=>by omega⟩
theorem fq {L:List bh} {q:Nat} {m:List UInt8} {c:bh} (h:L[q]? = some c): (bJ.all L).set (q*8+1) (.string (bs m))=bJ.all (hj L q m):=by
 have:=bA.pr bJ (j:=1) (a':=F5 c m) (v:= .string (bs m)) h a1 rfl
 rw[hj,h];exact this
theorem PU (w:World) (t u:Nat) (x r:Int) (l: (aD t [.int .i64 x] 3).pred w) (K: (aD u [.int .i32 r] 21).pred w)
 (v:Value) (L:List bh) (h: (dL v L).pred w) (Y:L.length≤1000000) (M:de L=L) (N: ∀c∈L,c.more.length≤1000000) (ak: ∀k∈v.ownBlock.toList,k≠t∧k≠u):Calls prog 415 ([]++[v]++[ptr t,ptr u]).toArray w (ds v (ez L x r) w):=by
 have Z:t∉v.ownBlock.toList:=λC=>(ak _ C).1 rfl
 have Za:u∉v.ownBlock.toList:=λC=>(ak _ C).2 rfl
 have Zb:=As r
 refine calls (n:=63) func415 rfl ntmps415 rfl ?_;refine cG (H':=af w v.ownBlock.toList [dL v L]) ?_ (Sub.refl _) (sJ h);refine hv Has.head (λA Zc O Zd Ze Zf P=>?_);subst O;refine ah ?_;refine ba bM rfl rfl (λj i=>i.bV l bz rfl) ?_;refine ar ?_;refine aV 7 rfl (λD=>?_) (λD=>?_)
 ·have Q:=aY D
  refine jc ?_;intro m b;exact ds.of rfl b aQ (by rw[ez,ax aa]) (fB _ _ _);all_goals have e: ((y:Int)).toNat=y:=gZ y
  all_goals first | exact ds.of rfl b fG (by rw[ez,ag aa,e,a];dsimp only;rw[ax aa]) (fB _ _ _) | exact ds.of rfl b fG (by rw[ez,ag aa,e,a];dsimp only;rw[ag aa,ax aa]) (fB _ _ _) | skip
  all_goals first | exact ds.of rfl b fG (by rw[ez,ag aa,e,a];dsimp only;rw[ag aa,ag aa,ax aa];exact (aX (λz=>List.set z (y*8+1) (Value.string (bs (c.more++fM r)))) (fq f)).trans (fq (c:=c) (by rw[hj,f];dsimp only;rw[jr aa];exact a))) (fB _ _ _) | exact ds.of rfl b fG (by rw[ez,ag aa,e,a];dsimp only;rw[ag aa,ag aa,ag aa,ax aa];exact (aX (λz=>List.set z (y*8+1) (Value.string (bs (c.more++fM r)))) (fq f)).trans (fq (c:=c) (by rw[hj,f];dsimp only;rw[jr aa];exact a))) (fB _ _ _) | exact ds.of rfl b fG (by rw[ez,ag aa,e,a];dsimp only;rw[ag aa,ag aa,ag aa,ag aa];exact fq a) (fB _ _ _)
 ·have Q:=a8 D
  refine aq ?_;refine ba bM rfl rfl (λj i=>i.bV l bz rfl) ?_;refine aK ?_;refine aV 13 rfl (λaH=>?_) (λaH=>?_)
  ·have R:=aY aH
   refine eT ?_;intro m b;exact ds.of rfl b aQ (by rw[ez,ax aa]) (fB _ _ _);all_goals have e: ((y:Int)).toNat=y:=gZ y
   all_goals first | exact ds.of rfl b fG (by rw[ez,ag aa,e,a];dsimp only;rw[ax aa]) (fB _ _ _) | exact ds.of rfl b fG (by rw[ez,ag aa,e,a];dsimp only;rw[ag aa,ax aa]) (fB _ _ _) | skip
   all_goals first | exact ds.of rfl b fG (by rw[ez,ag aa,e,a];dsimp only;rw[ag aa,ag aa,ax aa];exact (aX (λz=>List.set z (y*8+1) (Value.string (bs (c.more++fM r)))) (fq f)).trans (fq (c:=c) (by rw[hj,f];dsimp only;rw[jr aa];exact a))) (fB _ _ _) | exact ds.of rfl b fG (by rw[ez,ag aa,e,a];dsimp only;rw[ag aa,ag aa,ag aa,ax aa];exact (aX (λz=>List.set z (y*8+1) (Value.string (bs (c.more++fM r)))) (fq f)).trans (fq (c:=c) (by rw[hj,f];dsimp only;rw[jr aa];exact a))) (fB _ _ _) | exact ds.of rfl b fG (by rw[ez,ag aa,e,a];dsimp only;rw[ag aa,ag aa,ag aa,ag aa];exact fq a) (fB _ _ _)
  ·have R:=a8 aH
   refine ah ?_;refine ba bM rfl rfl (λj i=>i.bV l bz rfl) ?_;obtain⟨g,rfl⟩:=P aa;obtain⟨y,rfl⟩ : ∃y:Nat,x=(y:Int):=⟨x.toNat,aa⟩;obtain⟨c,a⟩ : ∃c,L[y]? = some c:=⟨L[y]'aa,bE _⟩;have Zg:=N c (c8 a)
   have F:=PT M y c a
   refine aq ?_;refine bD (q:=y) dv rfl rfl rfl rfl aa aa ?_;refine ah ?_;refine ba jt rfl rfl (λj i=>i.kX (E:=bJ) aQ a 0 _ rfl) ?_;refine aS ?_;refine aV 21 rfl (λG=>?_) (λG=>?_)
   ·have S:=aY G
    refine aR ?_;intro m b;all_goals have e: ((y:Int)).toNat=y:=gZ y
    all_goals exact ds.of rfl b aQ (by rw[ez,ag aa,e,a];dsimp only;rw[ax aa]) (fB _ _ _)
    all_goals first | exact ds.of rfl b fG (by rw[ez,ag aa,e,a];dsimp only;rw[ag aa,ag aa,ax aa];exact (aX (λz=>List.set z (y*8+1) (Value.string (bs (c.more++fM r)))) (fq f)).trans (fq (c:=c) (by rw[hj,f];dsimp only;rw[jr aa];exact a))) (fB _ _ _) | exact ds.of rfl b fG (by rw[ez,ag aa,e,a];dsimp only;rw[ag aa,ag aa,ag aa,ax aa];exact (aX (λz=>List.set z (y*8+1) (Value.string (bs (c.more++fM r)))) (fq f)).trans (fq (c:=c) (by rw[hj,f];dsimp only;rw[jr aa];exact a))) (fB _ _ _) | exact ds.of rfl b fG (by rw[ez,ag aa,e,a];dsimp only;rw[ag aa,ag aa,ag aa,ag aa];exact fq a) (fB _ _ _)
   ·have S:=a8 G
    refine aq ?_;refine ba jt rfl rfl (λj i=>i.bV K bz rfl) ?_;refine aq ?_;refine ao rfl zS rfl (λH a=>AB H r) ?_;refine ay ?_;refine aj (λs=>?_) (λs=>?_)
    ·skip
     refine ah ?_;intro m b;all_goals have e: ((y:Int)).toNat=y:=gZ y
     all_goals exact ds.of rfl b aQ (by rw[ez,ag aa,e,a];dsimp only;rw[ax aa]) (fB _ _ _)
     all_goals first | exact ds.of rfl b fG (by rw[ez,ag aa,e,a];dsimp only;rw[ag aa,ag aa,ax aa];exact (aX (λz=>List.set z (y*8+1) (Value.string (bs (c.more++fM r)))) (fq f)).trans (fq (c:=c) (by rw[hj,f];dsimp only;rw[jr aa];exact a))) (fB _ _ _) | exact ds.of rfl b fG (by rw[ez,ag aa,e,a];dsimp only;rw[ag aa,ag aa,ag aa,ax aa];exact (aX (λz=>List.set z (y*8+1) (Value.string (bs (c.more++fM r)))) (fq f)).trans (fq (c:=c) (by rw[hj,f];dsimp only;rw[jr aa];exact a))) (fB _ _ _) | exact ds.of rfl b fG (by rw[ez,ag aa,e,a];dsimp only;rw[ag aa,ag aa,ag aa,ag aa];exact fq a) (fB _ _ _)
    ·skip
     refine ah ?_;refine bG [0,1,2,3,4,5] 1 [[(6,false,[7,8])]] ?_;refine aq ?_;refine aL rfl (λB p=>(ba bM rfl rfl (λT I=>by subst I;exact p.bV l bz rfl) aG)) ?_;refine aL rfl (λB p=>(bD (q:=y) dv rfl rfl rfl rfl aa aa aG)) ?_;refine aq ?_;refine aL rfl (λB p=>(ba m8 rfl rfl (λj U=>by subst U;exact p.kX (E:=bJ) aQ a 1 _ rfl) aG)) ?_;refine aL rfl (λB p=>(ba jt rfl rfl (λT I=>by subst I;exact p.bV K bz rfl) aG)) ?_;refine ar ?_;refine ao rfl EI rfl (λH a=>F0 H r) ?_;refine aq ?_;refine aL rfl (λB p=>(eE rfl rfl rfl aa aG)) ?_;refine bw ?_;refine aj (λV=>?_) (λV=>?_)
     ·skip
      refine ah ?_;intro m b;have J:=Decidable.not_not.1 s
      all_goals have e: ((y:Int)).toNat=y:=gZ y
      all_goals exact ds.of rfl b aQ (by rw[ez,ag aa,e,a];dsimp only;rw[ag aa,ax aa]) (fB _ _ _)
      all_goals first | exact ds.of rfl b fG (by rw[ez,ag aa,e,a];dsimp only;rw[ag aa,ag aa,ax aa];exact (aX (λz=>List.set z (y*8+1) (Value.string (bs (c.more++fM r)))) (fq f)).trans (fq (c:=c) (by rw[hj,f];dsimp only;rw[jr aa];exact a))) (fB _ _ _) | exact ds.of rfl b fG (by rw[ez,ag aa,e,a];dsimp only;rw[ag aa,ag aa,ag aa,ax aa];exact (aX (λz=>List.set z (y*8+1) (Value.string (bs (c.more++fM r)))) (fq f)).trans (fq (c:=c) (by rw[hj,f];dsimp only;rw[jr aa];exact a))) (fB _ _ _) | exact ds.of rfl b fG (by rw[ez,ag aa,e,a];dsimp only;rw[ag aa,ag aa,ag aa,ag aa];exact fq a) (fB _ _ _)
     ·skip
      refine al ?_;refine ba bM rfl rfl (λj i=>i.bV l bz rfl) ?_;refine bD (q:=y) dv rfl rfl rfl rfl aa aa ?_;refine aq ?_;refine ba bM rfl rfl (λj i=>i.kX (E:=bJ) aQ a 2 _ rfl) ?_;refine aJ ?_;refine aj (λW=>?_) (λW=>?_)
      ·skip
       obtain⟨d,f⟩ : ∃d,L[y+1]? = some d:=⟨L[y+1]'(F.1 aa),bE _⟩;have Zh:=F.1 aa
       refine ar ?_;refine ba bM rfl rfl (λj i=>i.bV l bz rfl) ?_;refine ar ?_;refine bD (q:=y+1) dv rfl rfl rfl rfl aa aa ?_;refine aq ?_;refine kW (o:=(y+1)*8+1) m8 rfl rfl cz (by simp[Addr.add_lit]) rfl (by rw[bJ.dH];show (y+1)*8+1<L.length*8;omega) ?_;refine ay ?_;refine ba bM rfl rfl (λj i=>i.bV l bz rfl) ?_;refine aq ?_;refine bD (q:=y) dv rfl rfl rfl rfl aa aa ?_;refine aq ?_;refine kW (o:=y*8+1) m8 rfl rfl cz (by simp[Addr.add_lit]) rfl (by (rw[fT,bJ.dH];show y*8+1<L.length*8;omega)) ?_;refine ar ?_;intro m b;have J:=Decidable.not_not.1 s
       all_goals have e: ((y:Int)).toNat=y:=gZ y
       all_goals skip
       all_goals exact ds.of rfl b aQ (by rw[ez,ag aa,e,a];dsimp only;rw[ag aa,ag aa,ax aa];exact (aX (λz=>List.set z (y*8+1) (Value.string (bs (c.more++fM r)))) (fq f)).trans (fq (c:=c) (by rw[hj,f];dsimp only;rw[jr aa];exact a))) (fB _ _ _)
      ·skip
       refine al ?_;refine aj (λX=>?_) (λX=>?_)
       ·skip
        have Zi:=F.2 aa
        obtain⟨d,f⟩ : ∃d,L[y - 1]? = some d:=⟨L[y - 1]'aa,bE _⟩;refine ar ?_;refine ba bM rfl rfl (λj i=>i.bV l bz rfl) ?_;refine ar ?_;refine bD (q:=y - 1) dv rfl rfl rfl rfl aa aa ?_;refine aq ?_;refine kW (o:=(y - 1)*8+1) m8 rfl rfl cz (by simp[Addr.add_lit]) rfl (by rw[bJ.dH];show (y - 1)*8+1<L.length*8;omega) ?_;refine ay ?_;refine ba bM rfl rfl (λj i=>i.bV l bz rfl) ?_;refine aq ?_;refine bD (q:=y) dv rfl rfl rfl rfl aa aa ?_;refine aq ?_;refine kW (o:=y*8+1) m8 rfl rfl cz (by simp[Addr.add_lit]) rfl (by (rw[fT,bJ.dH];show y*8+1<L.length*8;omega)) ?_;refine ar ?_;intro m b;have J:=Decidable.not_not.1 s
        all_goals have e: ((y:Int)).toNat=y:=gZ y
        all_goals skip
        all_goals exact ds.of rfl b aQ (by rw[ez,ag aa,e,a];dsimp only;rw[ag aa,ag aa,ag aa,ax aa];exact (aX (λz=>List.set z (y*8+1) (Value.string (bs (c.more++fM r)))) (fq f)).trans (fq (c:=c) (by rw[hj,f];dsimp only;rw[jr aa];exact a))) (fB _ _ _)
       ·skip
        refine ay ?_;refine ba bM rfl rfl (λj i=>i.bV l bz rfl) ?_;refine aq ?_;refine bD (q:=y) dv rfl rfl rfl rfl aa aa ?_;refine aq ?_;refine kW (o:=y*8+1) m8 rfl rfl cz (by simp[Addr.add_lit]) rfl (by (rw[bJ.dH];show y*8+1<L.length*8;omega)) ?_;refine ar ?_;intro m b;have J:=Decidable.not_not.1 s
        all_goals have e: ((y:Int)).toNat=y:=gZ y
        all_goals skip
        all_goals exact ds.of rfl b aQ (by rw[ez,ag aa,e,a];dsimp only;rw[ag aa,ag aa,ag aa,ag aa];exact fq a) (fB _ _ _)
theorem Chunk.dA {w w':World} (c:Chunk) (h:c.pred w) (a:Ext [] w w'):c.pred w':=c.loc w w' (λk b=>a.block k (c.low w h k b) av) h
abbrev jf (L:List bh) (w:World):=fb (λv:Value=>v) (λv=>dL v L) (λ_=>True) w
theorem q3 (w:World) (F:Nat→Prop) (A:Option Addr) (n c:Nat) (row:List bh) (m:Rd bJ w F A n c row) (D:n≤1000000) (f:List bh→List bh) (d:FuncId) (cap:List Value) (o:ad prog d) (p: ∀L,(f L).length=L.length)
 (q: ∀w' v,Ext [] w w'→(∀k∈v.ownBlock.toList,w.heap.size≤k)→(dL v (de row)).pred w'→Calls prog d ([]++[v]++cap).toArray w' (ds v (f (de row)) w')):
 Calls prog 275 [.slice A n c,.func (.func d) [].toArray cap.toArray].toArray w (jf (cR f row) w):=by
 have G:=m.len
 have r:=hG row
 have H:=p (de row)
 refine aW func275 ntmps275 ?_;refine jM 282 8 ?_;refine aK ?_;refine ol (E:=bJ) dv rfl rfl rfl (λ_=>by exact cz) (λw' b=>m.ext b.ext av) (by simp only[maxLen];omega) aa (λa s=>?_);refine aS ?_;have t: ∀k∈a.ownBlock.toList,w.heap.size≤k:=λg u=>by
  rcases s g (by simpa using u) with h | h
  simp[Value.ownBlock] at h
  exact h.1
 have y:0+n=row.length:=by omega
 rw[y];refine cG (H':=af w [] [dL a row]) ?_ (Sub.refl _) (λx z=>z);refine ar ?_;refine qI (v:= .tuple #[]) (c:=dL a row) (c':=dL a (de row)) rfl wQ rfl cz rfl (λw' b=>(w_ w' a row (b.has Has.head) aa).mono ?_) ?_;rintro e B ⟨i,j,l⟩;exact⟨i,j,AD l rfl r⟩;refine al ?_;refine PM (first:=[]) (cap:=cap) (v:= .tuple #[]) (c:=dL a (de row)) (c':=dL a (f (de row))) rfl rfl o rfl cz rfl (uk _ _ _ _ _) (λw' b=>q w' a b.ext t (b.has Has.head)) ?_;refine ay ?_;refine qI (v:= .tuple #[]) (c:=dL a (f (de row))) (c':=dL a (cR f row)) rfl wQ rfl cz rfl (λw' b=>(w_ w' a (f (de row)) (b.has Has.head) aa).mono ?_) ?_;rintro e B ⟨i,j,l⟩;exact⟨i,j,AD l rfl (hG _)⟩;refine aR ?_;intro I C;exact fb.of a aU C
theorem PV (w:World) (F:Nat→Prop) (A:Option Addr) (n c:Nat) (row:List bh) (h:Rd bJ w F A n c row) (i:n≤1000000) (x r:Int) (a:hF):
 Calls prog 320 [.slice A n c,.int .i64 x,.int .i32 r,.agg a.enc.toArray].toArray w (jf (cR (λL=>jz L x r a) row) w):=by
 have m:=h.len
 refine aW func320 ntmps320 ?_;refine ah ?_;intro o p q;refine aq ?_;intro s t u;refine aq ?_;intro y z B;refine aC ?_;refine gg (ι:=Value) (c':=λv=>dL v (cR (λL=>jz L x r a) row)) rfl pF rfl (λj b=>q3 j F A n c row (h.ext b.ext av) i (λL=>jz L x r a) _ [ptr _,ptr _,ptr _] Ox (λL=>q2 L x r a) (λw' v d f ai=>PO w' _ _ _ x r a (Chunk.dA _ (b.has bF) d) (Chunk.dA _ (b.has cp) d) (Chunk.dA _ (b.has aQ) d) v _ ai (by rw[hG];omega) (λk g=>⟨λe=>by have:=f k g;have:=b.lt (k:=k) (by subst e;simp[aB,aD]);omega,λe=>by have:=f k g;have:=b.lt (k:=k) (by subst e;simp[aB,aD]);omega,λe=>by have:=f k g;have:=b.lt (k:=k) (by subst e;simp[aB,aD]);omega⟩))) (λC _=>?_);refine ay ?_;intro D l;exact fb.of _ aU (l.aw ae)
theorem PW (w:World) (F:Nat→Prop) (A:Option Addr) (n c:Nat) (row:List bh) (g:Rd bJ w F A n c row) (h:n≤1000000) (x y an aM:Int):
 Calls prog 317 [.slice A n c,.int .i64 x,.int .i64 y,.agg [.int .i64 an,.int .i64 aM].toArray].toArray w (jf (cR (λL=>kt L x y an aM) row) w):=by
 have l:=g.len
 refine aW func317 ntmps317 ?_;refine ah ?_;intro m o p;refine aq ?_;intro q r s;refine aq ?_;intro t u z;refine aC ?_;refine gg (ι:=Value) (c':=λv=>dL v (cR (λL=>kt L x y an aM) row)) rfl pF rfl (λi a=>q3 i F A n c row (g.ext a.ext av) h (λL=>kt L x y an aM) _ [ptr _,ptr _,ptr _] Ow (λL=>xj L _ _ _ _) (λw' v b d ai=>PQ w' _ _ _ x y an aM (Chunk.dA _ (a.has cp) b) (Chunk.dA _ (a.has bF) b) (Chunk.dA _ (a.has aQ) b) v _ ai (by rw[hG];omega) (λk f=>⟨λe=>by have:=d k f;have:=a.lt (k:=k) (by subst e;simp[aB,aD]);omega,λe=>by have:=d k f;have:=a.lt (k:=k) (by subst e;simp[aB,aD]);omega,λe=>by have:=d k f;have:=a.lt (k:=k) (by subst e;simp[aB,aD]);omega⟩))) (λB _=>?_);refine ay ?_;intro C j;exact fb.of _ aU (j.aw ae)
theorem PX (w:World) (F:Nat→Prop) (A:Option Addr) (n c:Nat) (row:List bh) (g:Rd bJ w F A n c row) (h:n≤1000000) (x y an aM:Int):
 Calls prog 376 [.slice A n c,.int .i64 x,.int .i64 y,.agg [.int .i64 an,.int .i64 aM].toArray].toArray w (jf (cR (λL=>insertC L x y an aM) row) w):=by
 have l:=g.len
 refine aW func376 ntmps376 ?_;refine ah ?_;intro m o p;refine aq ?_;intro q r s;refine aq ?_;intro t u z;refine aC ?_;refine gg (ι:=Value) (c':=λv=>dL v (cR (λL=>insertC L x y an aM) row)) rfl pF rfl (λi a=>q3 i F A n c row (g.ext a.ext av) h (λL=>insertC L x y an aM) _ [ptr _,ptr _,ptr _] ON (λL=>sG L _ _ _ _) (λw' v b d ai=>PR w' _ _ _ x y an aM (Chunk.dA _ (a.has cp) b) (Chunk.dA _ (a.has bF) b) (Chunk.dA _ (a.has aQ) b) v _ ai (by rw[hG];omega) (λk f=>⟨λe=>by have:=d k f;have:=a.lt (k:=k) (by subst e;simp[aB,aD]);omega,λe=>by have:=d k f;have:=a.lt (k:=k) (by subst e;simp[aB,aD]);omega,λe=>by have:=d k f;have:=a.lt (k:=k) (by subst e;simp[aB,aD]);omega⟩))) (λB _=>?_);refine ay ?_;intro C j;exact fb.of _ aU (j.aw ae)
theorem PY (w:World) (F:Nat→Prop) (A:Option Addr) (n c:Nat) (row:List bh) (g:Rd bJ w F A n c row) (h:n≤1000000) (x y an aM:Int):
 Calls prog 391 [.slice A n c,.int .i64 x,.int .i64 y,.agg [.int .i64 an,.int .i64 aM].toArray].toArray w (jf (cR (λL=>jS L x y an aM) row) w):=by
 have l:=g.len
 refine aW func391 ntmps391 ?_;refine ah ?_;intro m o p;refine aq ?_;intro q r s;refine aq ?_;intro t u z;refine aC ?_;refine gg (ι:=Value) (c':=λv=>dL v (cR (λL=>jS L x y an aM) row)) rfl pF rfl (λi a=>q3 i F A n c row (g.ext a.ext av) h (λL=>jS L x y an aM) _ [ptr _,ptr _,ptr _] OO (λL=>sH L _ _ _ _) (λw' v b d ai=>PS w' _ _ _ x y an aM (Chunk.dA _ (a.has cp) b) (Chunk.dA _ (a.has bF) b) (Chunk.dA _ (a.has aQ) b) v _ ai (by rw[hG];omega) (λk f=>⟨λe=>by have:=d k f;have:=a.lt (k:=k) (by subst e;simp[aB,aD]);omega,λe=>by have:=d k f;have:=a.lt (k:=k) (by subst e;simp[aB,aD]);omega,λe=>by have:=d k f;have:=a.lt (k:=k) (by subst e;simp[aB,aD]);omega⟩))) (λB _=>?_);refine ay ?_;intro C j;exact fb.of _ aU (j.aw ae)
theorem xk {P:bh→Prop} (f: ∀c,P c→P (gO c.at_)): ∀{L:List bh},(∀c∈L,P c)→ ∀c∈de L,P c:=by
 intro L;fun_induction de L with
 | case1=>intro h;exact h
 | case2 c=>
  intro h d ak;rw[eL] at ak
  subst ak;split
  exact h c av;exact f c (h c av)
 | case3 c d l g a=>
  intro h e he;rcases eD.1 he with rfl | he
  exact h _ av;exact a (λx b=>h x (by simp[eD.1 b])) e he
 | case4 c d l g ai a=>
  intro h e he;rcases eD.1 he with rfl | he
  exact h _ av;rcases eD.1 he with rfl | he
  exact h _ av;exact a (λx b=>h x (by simp[b])) e he
 | case5 c d l g ai a=>
  intro h e he;rcases eD.1 he with rfl | he
  exact f c (h c av);exact a (λx b=>h x (by simp[eD.1 b])) e he
theorem PZ (w:World) (F:Nat→Prop) (A:Option Addr) (n c:Nat) (row:List bh) (b:Rd bJ w F A n c row) (h:n≤1000000) (i: ∀c∈row,c.more.length≤1000000) (x r:Int):
 Calls prog 372 [.slice A n c,.int .i64 x,.int .i32 r].toArray w (jf (cR (λL=>ez L x r) row) w):=by
 have m:=b.len
 refine aW func372 ntmps372 ?_;refine ah ?_;intro o p q;refine aq ?_;intro s t u;refine aC ?_;refine gg (ι:=Value) (c':=λv=>dL v (cR (λL=>ez L x r) row)) rfl pF rfl (λj a=>q3 j F A n c row (b.ext a.ext av) h (λL=>ez L x r) _ [ptr _,ptr _] OL (λL=>fB L x r) (λw' v d f ai=>PU w' _ _ x r (Chunk.dA _ (a.has bF) d) (Chunk.dA _ (a.has aQ) d) v _ ai (by rw[hG];omega) (FH row) (xk (λ_ _=>bN _) i) (λk g=>⟨λe=>by have:=f k g;have:=a.lt (k:=k) (by subst e;simp[aB,aD]);omega,λe=>by have:=f k g;have:=a.lt (k:=k) (by subst e;simp[aB,aD]);omega⟩))) (λy _=>?_);refine ay ?_;intro z l;exact fb.of _ aU (l.aw ae)
theorem P0 (w:World) (F:Nat→Prop) (A:Option Addr) (n c:Nat) (row:List bh) (a:Rd bJ w F A n c row) (b:n≤1000000):
 Calls prog 416 [.slice A n c].toArray w (jf (cR mC row) w):=by
 have g:=a.len
 refine aW func416 ntmps416 ?_;refine aK ?_;refine gg (ι:=Value) (vs:=[.slice A n c,.func (.func 437) [].toArray [].toArray]) (c':=λv=>dL v (cR mC row)) rfl pF rfl (λd e=>q3 d F A n c row (a.ext e.ext av) b mC _ [] OS xi (λw' v h i ai=>PN w' v _ ai (by rw[hG];omega))) (λv4 _=>?_);refine ay ?_;intro j f;exact fb.of _ aU (f.aw ae)
theorem P1 (w:World) (F:Nat→Prop) (A:Option Addr) (n c:Nat) (row:List bh) (a:Rd bJ w F A n c row) (b:n≤1000000):
 Calls prog 196 [.slice A n c].toArray w (jf (cR id row) w):=by
 have i:=a.len
 refine aW func196 ntmps196 ?_;refine aK ?_;refine gg (ι:=Value) (vs:=[.slice A n c,.func (.func 276) [].toArray [].toArray]) (c':=λv=>dL v (cR id row)) rfl pF rfl (λd f=>q3 d F A n c row (a.ext f.ext av) b id _ [] EP (λ_=>rfl) (λw' v j k ai=>(FJ w' v).mono (λe l h=>⟨h.1,h.2.mono av,Chunk.dA _ ai h.2⟩))) (λv4 _=>?_);refine ay ?_;intro m g;exact fb.of _ aU (g.aw ae)
section
structure bZ where
 jA:List bQ
 room:Int
 cF:List bQ
 cols:Int
 f_:List ed
def q4 (cols:Int) (k v:Int):bQ:=(List.replicate cols.toNat (jR k v),false)
def nt (p:bZ) (y:Int) (f:bQ→bQ):bZ:=
 if 0≤y∧y<p.cF.length then { p with cF:=p.cF.modify y.toNat f } else p
def nu (p:bZ) (y:Int) (f:List bh→List bh):bZ:=nt p y (λr=>(f r.1,r.2))
def iC (p:bZ) (y:Int) (b:Bool):bZ:=nt p y (λr=>(r.1,b))
def fC (p:bZ) (k a n:Int):bZ:={ p with f_:=p.f_++[⟨k,a,n⟩] }
def uN (p:bZ) (y x r:Int) (a:hF):bZ:=nu p y (cR (λL=>jz L x r a))
def xl (p:bZ) (y x r:Int):bZ:=nu p y (cR (λL=>ez L x r))
def xm (p:bZ) (y:Int):bZ:=nu p y (cR mC)
def uO (p:bZ) (y x n k v:Int):bZ:=nu p y (cR (λL=>insertC L x n k v))
def AG (p:bZ) (y x n k v:Int):bZ:=nu p y (cR (λL=>jS L x n k v))
def eraseP (p:bZ) (y a b k v:Int):bZ:=
 if 0≤y∧y<p.cF.length then
  let q:=nu p y (cR (λL=>kt L a b k v))
  if a<p.cols∧p.cols≤b then (if a≤0 then iC (iC q (y+1) false) y false else iC q (y+1) false) else q
 else p
structure cZ (p:bZ):Prop where
 cols:2≤p.cols∧p.cols≤1000
 rows:1≤p.cF.length∧p.cF.length≤1000
 wide: ∀r∈p.cF,(r.1.length:Int)=p.cols∧ ∀c∈r.1,c.more.length≤32
 nv: ∀r∈p.jA,(r.1.length:Int)=p.cols∧ ∀c∈r.1,c.more.length≤32
 room: (p.jA.length:Int)≤p.room∧p.room≤100000
def bq.abs (p:bq):bZ:=⟨p.r.rows,p.r.room,bW p.s.l,p.cols,p.be.l⟩
def hI (p:bq) (q:bZ) (w:World):Ending→World→Prop:=aP (λ_:bq=>Value.tuple #[]) (bB p) bB (λz=>z.g=p.g∧cV z.r∧z.abs=q) w
theorem af.apart {b w:World} {S:List Nat} {cs cs' l:List Chunk} (h:af b S cs w) (d:aA cs l cs') {c:Chunk} (e:Has cs' c): ∀k∈c.ce,k∉aB l:=by
 have a:=(h.perm d.perm).nodup
 rw[ix] at a
 intro k f g;exact (fK.1 a).2.2 k g k (e4.2 ⟨c,e.mem,f⟩) rfl
def setRow (p:bq) (y:Nat) (r:bR):bq:={ p with s:={ p.s with l:=p.s.l.set y r } }
theorem AH (p:bq) {y:Nat} {g r:bR} (a:p.s.l[y]? = some g) {f:bQ→bQ} (c:f g.fk=r.fk): (setRow p y r).abs=nt p.abs (y:Int) f:=by
 have d:=(cU.1 a).1
 have e: (0 :Int)≤(y:Int)∧(y:Int)<p.abs.cF.length:=⟨aa,by simp[bq.abs,bW];omega⟩
 unfold nt;rw[ax e];simp only[bq.abs,setRow,bZ.mk.injEq,true_and,and_true,gZ];apply ml
 intro k;rw[List.getElem?_modify];simp only[bW,eJ,n3];by_cases b:y=k
 subst b;have h:=(cU.1 a).2
 simp[d,h,c]
 simp[b]
theorem P2 {b w:World} {S:List Nat} {cs cs':List Chunk} {p:bq} {y:Nat} {g:bR} {d:Option Addr} {c':Nat} {a:List bh} (f:p.s.l[y]? = some g) (h:af b S cs w)
 (i:aA cs [dL (.slice d a.length c') a,p.s.cc,p.an,aT (b9 p.r),own 157 2 p.s.val p.s.l.length ((cf.all p.s.l).set (y*2) (.slice d a.length c')),p.be.au] cs'):af b S (bB (setRow p y ⟨d,c',g.cont,a⟩)) w:=by
 have m:=h.aw i
 have n:=m.Av (k:=y) (c:=g.aF) (by simp[f])
 have o:=bA.pr cf (j:=0) (a':=⟨d,c',g.cont,a⟩) (v:= .slice d a.length c') f a1 rfl
 have e:bB (setRow p y ⟨d,c',g.cont,a⟩)=[p.an,aT (b9 p.r),own 157 2 p.s.val p.s.l.length ((cf.all p.s.l).set (y*2) (.slice d a.length c')),aT ((p.s.l.map bR.aF).set y (dL (.slice d a.length c') a)),p.be.au]:=by
  have q:cf.all (p.s.l.set y ⟨d,c',g.cont,a⟩)=(cf.all p.s.l).set (y*2) (.slice d a.length c'):=o.symm
  simp only[bB,setRow,bq.an,nq,db.val,db.au,db.cc,fT,q,n5]
 rw[e];exact n.aw ae
theorem F8 {b w:World} {S:List Nat} {cs cs':List Chunk} {p:bq} {y:Nat} {g:bR} {v:Bool} (a:p.s.l[y]? = some g) (d:af b S cs w)
 (f:aA cs [p.an,aT (b9 p.r),own 157 2 p.s.val p.s.l.length ((cf.all p.s.l).set (y*2+1) (.bool v)),p.s.cc,p.be.au] cs'):af b S (bB (setRow p y ⟨g.A,g.c,v,g.cells⟩)) w:=by
 have h:=d.aw f
 have i:=bA.pr cf (j:=1) (a':=⟨g.A,g.c,v,g.cells⟩) (v:= .bool v) a a1 rfl
 have k:=(cU.1 a).1
 have m:=(cU.1 a).2
 have e:bB (setRow p y ⟨g.A,g.c,v,g.cells⟩)=[p.an,aT (b9 p.r),own 157 2 p.s.val p.s.l.length ((cf.all p.s.l).set (y*2+1) (.bool v)),p.s.cc,p.be.au]:=by
  have n:cf.all (p.s.l.set y ⟨g.A,g.c,v,g.cells⟩)=(cf.all p.s.l).set (y*2+1) (.bool v):=i.symm
  have o: (p.s.l.set y ⟨g.A,g.c,v,g.cells⟩).map bR.aF=p.s.l.map bR.aF:=by
   rw[n5];have:bR.aF ⟨g.A,g.c,v,g.cells⟩=(p.s.l.map bR.aF)[y]'(by simpa using k):=by
    rw[List.getElem_map,m]
   rw[this,List.set_getElem_self]
  simp only[bB,setRow,bq.an,nq,db.val,db.au,db.cc,fT,n,o]
 rw[e];exact h
section
variable {P:Program} {n:Nat} {ops:Array Oper} {Q:cl} {rest:List Oper} {l:Fr} {d:Nat} {ty:TypeId} {pos:String} {a6:Array Edge}
variable {b:World} {S:List Nat} {cs:List Chunk}
theorem P3 {ι:Type} {hX:Operand} {args:List Operand} {c_:Array TypeId} {f:FuncId} {first cap vs:List Value} {v:ι→Value} {c':ι→Chunk} {ok:ι→Prop} (ak:Nat.blt d n=true) (a:a_ l hX=some (.func (.func f) first.toArray cap.toArray)) (g:ad P f) (j:cH l args=some vs)
 (k: ∀w,af b S cs w→Calls P f (first++vs++cap).toArray w (fb v c' ok w))
 (h: ∀i,ok i→az P n ops Q rest ((d,v i)::l) (af b S (c' i::cs))):
 az P n ops Q (⟨some d,.call ⟨.value hX,args.toArray,c_⟩,ty,pos,a6,none⟩::rest) l (af b S cs):=by
 refine gJ a ak g j λw c=>?_
 have:=k w c
 simp only[List.append_toArray];refine this.mono ?_;rintro e w' ⟨i,hi,rfl,m,ai,a,o⟩;exact⟨v i,rfl,(h i hi).at (c.add m ai a o)⟩
end
section
variable {P:Program} {n:Nat} {ops:Array Oper} {Q:cl} {rest:List Oper} {l:Fr} {d:Nat} {ty:TypeId} {pos:String} {a6:Array Edge}
variable {b:World} {S:List Nat} {cs:List Chunk}
theorem af.xn {α:Type} {E:bA α} {w:World} (h:af b S cs w) {e g m c:Nat} {L:List α} {v:Value} (d:Has cs (own e E.sz v m (E.all L))) (f:v= .slice (some ⟨g,0,none⟩) m c) {k:Nat} {a:α} (i:L[k]? = some a) (j:Nat) (u:Value) (l: (E.enc a)[j]? = some u):
 w.cell? (((⟨g,0,none⟩ :Addr).add (k*E.sz)).add j)=some u:=by
 subst f;exact h.kX d i j u l
theorem AI {x y:Operand} {t:Nat} {z v v0:Value} {p:Addr} {e sz m g c o:Nat} {xs:List Value} {cs':List Chunk} (a:v0= .slice (some ⟨g,0,none⟩) m c) (d:cJ P t z) (f:a_ l x=some (.pointer (some p))) (i:a_ l y=some v) (j:bn cs (own e sz v0 m xs) (own e sz v0 m (xs.set o v)) cs') (ai:p=⟨g,o,none⟩)
 (k:v.oneCell'=true) (q:o<xs.length)
 (h:az P n ops Q rest l (af b S cs')):az P n ops Q (⟨none,.store t x y,ty,pos,a6,none⟩::rest) l (af b S cs):=by
 subst a;exact kW d f i j ai k q h
theorem xo {x y:Operand} {t a:Nat} {z vs:List Value} {v0:Value} {p:Addr} {e sz m g c o:Nat} {xs:List Value} {cs':List Chunk} (d:v0= .slice (some ⟨g,0,none⟩) m c) (f:cB P t a z) (i:a_ l x=some (.pointer (some p))) (j:a_ l y=some (.agg vs.toArray)) (k:bn cs (own e sz v0 m xs) (own e sz v0 m (dd xs o vs)) cs') (ai:p=⟨g,o,none⟩)
 (q:vs.length=a) (r:aI vs) (s:o+vs.length≤xs.length)
 (h:az P n ops Q rest l (af b S cs')):az P n ops Q (⟨none,.store t x y,ty,pos,a6,none⟩::rest) l (af b S cs):=by
 subst d;exact mu f i j k ai q r s h
end
theorem q5 {w:World} {r:db} (h:r.au.pred w) (c:0<r.l.length): ∃g,r.A=some ⟨g,0,none⟩:=by
 rcases h.2 with ⟨_,d⟩ | ⟨g,cap,am,a,_⟩
 omega
 injection a with b e f
 exact⟨g,b⟩
theorem sK (w:World) (p:bq) (u:bb w (bB p)) (x:cV p.r) (G:cZ p.abs) (y:Int) (f:List bh→List bh) (j:FuncId) (cap:List Value) (H:ad prog j)
 (I: ∀w' (g:bR) F,af w (aB (bB p)) (bB p) w'→g∈p.s.l→Rd bJ w' F g.A g.cells.length g.c g.cells→Calls prog j ([]++[g.val]++cap).toArray w' (jf (f g.cells) w')):
 Calls prog 315 [ptr p.g,.int .i64 y,.func (.func j) [].toArray cap.toArray].toArray w (hI p (nu p.abs y f) w):=by
 have J:=G.rows
 simp only[bq.abs,bW,cN] at J
 obtain⟨g,k⟩:=q5 (r:=p.s) (u.all _ av) aa;have B:p.s.val= .slice (some ⟨g,0,none⟩) p.s.l.length p.s.c:=by rw[db.val,k]
 refine bI func315 ntmps315 u ?_;refine aS ?_;refine ao rfl si rfl (λa b=>sD a p (b.has aQ) y) ?_;refine ar ?_;refine aj (λK=>?_) (λK=>?_);obtain⟨q,rfl⟩ : ∃q:Nat,y=(q:Int):=⟨y.toNat,aa⟩;obtain⟨z,d⟩ : ∃z,p.s.l[q]? = some z:=⟨p.s.l[q]'aa,bE _⟩;have C:=c8 d
 refine bG [0,1,2,3,4,5,6,7,8,9,10,11,12,13] 2 [[(14,false,[15,16]),(17,true,[])]] ?_;refine bo ?_;refine aL rfl (λD m=>(bD (q:=q) dI rfl rfl rfl k aa aa aG)) ?_;refine aq ?_;refine aL rfl (λD m=>(ba sa rfl rfl (λS n=>by subst n;exact m.xn (E:=cf) cp B d 0 _ rfl) aG)) ?_;refine ar ?_;refine P3 (ι:=Value) (first:=[]) (cap:=cap) (c':=λv=>dL v (f z.cells)) rfl rfl H rfl (λa b=>by obtain⟨dE,c9,n,M⟩:=uJ (v:=z.val) (L:=z.cells) ((b.has hD:p.s.cc.pred a) z.aF (dF.2 ⟨z,C,rfl⟩));injection n with N _ O;subst N O;exact I a z _ b C M) (λP _=>?_);refine bY (λ_=>True) (λ_ h=> .inr (h.rem bv.head)) (λ_ h=>aU) ?_;refine aL rfl (λD m=>(bD (q:=q) dI rfl rfl rfl k aa aa aG)) ?_;refine ah ?_;refine iX (e:=282) (sz:=8) (v:=P) aQ (λdE c9 Q _ _ _ _=>?_);subst Q;refine AI B (o:=q*2) sa rfl rfl nj (by simp[Addr.add_lit]) rfl (by rw[cf.dH];show q*2<p.s.l.length*2;omega) ?_;refine aS ?_;intro R t
 (refine aP.bP (i:=setRow p q ⟨dE,c9,z.cont,f z.cells⟩) ⟨rfl,x,?_⟩ rfl (P2 d t ae);exact AH p d rfl)
 refine ar ?_;intro R t;exact aP.bP (i:=p) ⟨rfl,x,by rw[nu,nt,ag (by simp[bq.abs,bW];omega)]⟩ rfl t
theorem pV (w:World) (p:bq) (b:bb w (bB p)) (d:cV p.r) (h:cZ p.abs) (y:Int):
 Calls prog 318 [ptr p.g,.int .i64 y].toArray w (hI p (iC p.abs y false) w):=by
 have j:=h.rows
 simp only[bq.abs,bW,cN] at j
 obtain⟨g,e⟩:=q5 (r:=p.s) (b.all _ av) aa;have k:p.s.val= .slice (some ⟨g,0,none⟩) p.s.l.length p.s.c:=by rw[db.val,e]
 refine bI func318 ntmps318 b ?_;refine aS ?_;refine ao rfl si rfl (λm n=>sD m p (n.has aQ) y) ?_;refine ar ?_;refine aj (λt=>?_) (λt=>?_);obtain⟨q,rfl⟩ : ∃q:Nat,y=(q:Int):=⟨y.toNat,aa⟩;obtain⟨z,f⟩ : ∃z,p.s.l[q]? = some z:=⟨p.s.l[q]'aa,bE _⟩;refine al ?_;refine bD (q:=q) dI rfl rfl rfl e aa aa ?_;refine aq ?_;refine AI k (o:=q*2+1) px rfl rfl k6 (by simp[Addr.add_lit]) rfl (by rw[cf.dH];show q*2+1<p.s.l.length*2;omega) ?_;refine ar ?_;intro u a
 (refine aP.bP (i:=setRow p q ⟨z.A,z.c,false,z.cells⟩) ⟨rfl,d,?_⟩ rfl (F8 f a ae);exact AH p f rfl)
 refine ar ?_;intro u a;exact aP.bP (i:=p) ⟨rfl,d,by rw[iC,nt,ag (by simp[bq.abs,bW];omega)]⟩ rfl a
theorem P4 (w:World) (p:bq) (b:bb w (bB p)) (d:cV p.r) (h:cZ p.abs) (y:Int):
 Calls prog 374 [ptr p.g,.int .i64 y].toArray w (hI p (iC p.abs y true) w):=by
 have j:=h.rows
 simp only[bq.abs,bW,cN] at j
 obtain⟨g,e⟩:=q5 (r:=p.s) (b.all _ av) aa;have k:p.s.val= .slice (some ⟨g,0,none⟩) p.s.l.length p.s.c:=by rw[db.val,e]
 refine bI func374 ntmps374 b ?_;refine aS ?_;refine ao rfl si rfl (λm n=>sD m p (n.has aQ) y) ?_;refine ar ?_;refine aj (λt=>?_) (λt=>?_);obtain⟨q,rfl⟩ : ∃q:Nat,y=(q:Int):=⟨y.toNat,aa⟩;obtain⟨z,f⟩ : ∃z,p.s.l[q]? = some z:=⟨p.s.l[q]'aa,bE _⟩;refine al ?_;refine bD (q:=q) dI rfl rfl rfl e aa aa ?_;refine aq ?_;refine AI k (o:=q*2+1) px rfl rfl k6 (by simp[Addr.add_lit]) rfl (by rw[cf.dH];show q*2+1<p.s.l.length*2;omega) ?_;refine ar ?_;intro u a
 (refine aP.bP (i:=setRow p q ⟨z.A,z.c,true,z.cells⟩) ⟨rfl,d,?_⟩ rfl (F8 f a ae);exact AH p f rfl)
 refine ar ?_;intro u a;exact aP.bP (i:=p) ⟨rfl,d,by rw[iC,nt,ag (by simp[bq.abs,bW];omega)]⟩ rfl a
end
theorem oH {p:bq} (a:cZ p.abs) {g:bR} (d:g∈p.s.l):g.cells.length≤1000000∧ ∀c∈g.cells,c.more.length≤1000000:=by
 have h:=a.wide g.fk (by simp only[bq.abs,bW];exact dF.2 ⟨g,d,rfl⟩)
 have b:=a.cols
 exact⟨by have:=h.1;simp only at this;omega,λc b=>by have:=h.2 c b;omega⟩
theorem P5 (w:World) (d e f:Nat) (x r:Int) (a:hF) (i: (aD d [.int .i64 x] 3).pred w) (k: (aD e [.int .i32 r] 21).pred w) (l: (aD f a.enc 101).pred w) (F:Nat→Prop) (A:Option Addr) (n c:Nat) (row:List bh) (g:Rd bJ w F A n c row) (s:row.length≤1000000):
 Calls prog 319 ([]++[Value.slice A n c]++[ptr d,ptr e,ptr f]).toArray w (jf (cR (λL=>jz L x r a) row) w):=by
 have t:=g.len
 refine aW func319 ntmps319 ?_;refine aK ?_;refine ba bM rfl rfl (λh b=>b.bV i (by (simp;done)) rfl) ?_;refine ba jt rfl rfl (λh b=>b.bV k (by (simp;done)) rfl) ?_;refine cw r_ rfl rfl rfl (λh b j u m=>b.jy (sz:=5) l (by (simp;done)) rfl j u m) ?_;refine gg (ι:=Value) (c':=λv=>dL v (cR (λL=>jz L x r a) row)) rfl N0 rfl (λo p=>PV o F A n c row (g.ext p.ext av) aa x r a) (λy _=>?_);refine ay ?_;intro z q;exact fb.of _ aU q
theorem F9 (w:World) (p:bq) (e:bb w (bB p)) (f:cV p.r) (d:cZ p.abs) (y x r:Int) (a:hF):
 Calls prog 227 [ptr p.g,.int .i64 y,.int .i64 x,.int .i32 r,.agg a.enc.toArray].toArray w (hI p (uN p.abs y x r a) w):=by
 refine bI func227 ntmps227 e ?_;refine ah ?_;intro l m n;refine aq ?_;intro o q s;refine aq ?_;intro t u v;refine al ?_;refine aZ (ι:=bq) ae rfl sj rfl (λh b=>sK h p (b.bp ae) f d y (cR (λL=>jz L x r a)) _ [ptr _,ptr _,ptr _] NZ (λw' g F c i j=>P5 w' _ _ _ x r a (c.dD (b.has cp) (b.apart ae cp)) (c.dD (b.has bF) (b.apart ae bF)) (c.dD (b.has aQ) (b.apart ae aQ)) F _ _ _ _ j (oH d i).1)) (λz A=>?_);refine ar ?_;intro B k;exact aP.bP _ bz rfl (k.aw ae)
theorem P6 (w:World) (b d:Nat) (x r:Int) (f: (aD b [.int .i64 x] 3).pred w) (g: (aD d [.int .i32 r] 21).pred w) (F:Nat→Prop) (A:Option Addr) (n c:Nat) (row:List bh) (e:Rd bJ w F A n c row) (m:row.length≤1000000) (h: ∀c∈row,c.more.length≤1000000):
 Calls prog 371 ([]++[Value.slice A n c]++[ptr b,ptr d]).toArray w (jf (cR (λL=>ez L x r) row) w):=by
 have o:=e.len
 refine aW func371 ntmps371 ?_;refine aK ?_;refine ba bM rfl rfl (λi a=>a.bV f (by (simp;done)) rfl) ?_;refine ba jt rfl rfl (λi a=>a.bV g (by (simp;done)) rfl) ?_;refine gg (ι:=Value) (c':=λv=>dL v (cR (λL=>ez L x r) row)) rfl Om rfl (λj k=>PZ j F A n c row (e.ext k.ext av) aa h x r) (λp _=>?_);refine ay ?_;intro q l;exact fb.of _ aU l
theorem P7 (w:World) (p:bq) (e:bb w (bB p)) (f:cV p.r) (b:cZ p.abs) (y x r:Int):
 Calls prog 301 [ptr p.g,.int .i64 y,.int .i64 x,.int .i32 r].toArray w (hI p (xl p.abs y x r) w):=by
 refine bI func301 ntmps301 e ?_;refine ah ?_;intro k l m;refine aq ?_;intro n o q;refine al ?_;refine aZ (ι:=bq) ae rfl sj rfl (λh a=>sK h p (a.bp ae) f b y (cR (λL=>ez L x r)) _ [ptr _,ptr _] Ol (λw' g F c d i=>P6 w' _ _ x r (c.dD (a.has bF) (a.apart ae bF)) (c.dD (a.has aQ) (a.apart ae aQ)) F _ _ _ _ i (oH b d).1 (oH b d).2)) (λs t=>?_);refine ar ?_;intro u j;exact aP.bP _ bz rfl (j.aw ae)
theorem P8 (w:World) (d e b_:Nat) (x b an aM:Int) (h: (aD d [.int .i64 x] 3).pred w) (i: (aD e [.int .i64 b] 3).pred w) (k: (aD b_ [.int .i64 an,.int .i64 aM] 99).pred w) (F:Nat→Prop) (A:Option Addr) (n c:Nat) (row:List bh) (f:Rd bJ w F A n c row) (q:row.length≤1000000):
 Calls prog 375 ([]++[Value.slice A n c]++[ptr d,ptr e,ptr b_]).toArray w (jf (cR (λL=>insertC L x b an aM) row) w):=by
 have r:=f.len
 refine aW func375 ntmps375 ?_;refine aK ?_;refine ba bM rfl rfl (λg a=>a.bV h (by (simp;done)) rfl) ?_;refine ba bM rfl rfl (λg a=>a.bV i (by (simp;done)) rfl) ?_;refine cw gq rfl rfl rfl (λg a j u l=>a.jy (sz:=2) k (by (simp;done)) rfl j u l) ?_;refine gg (ι:=Value) (c':=λv=>dL v (cR (λL=>insertC L x b an aM) row)) rfl Oo rfl (λm o=>PX m F A n c row (f.ext o.ext av) aa x b an aM) (λs _=>?_);refine ay ?_;intro t p;exact fb.of _ aU p
theorem F_ (w:World) (p:bq) (e:bb w (bB p)) (f:cV p.r) (d:cZ p.abs) (y x b an aM:Int):
 Calls prog 303 [ptr p.g,.int .i64 y,.int .i64 x,.int .i64 b,.agg [.int .i64 an,.int .i64 aM].toArray].toArray w (hI p (uO p.abs y x b an aM) w):=by
 refine bI func303 ntmps303 e ?_;refine ah ?_;intro l m n;refine aq ?_;intro o q s;refine aq ?_;intro t u v;refine al ?_;refine aZ (ι:=bq) ae rfl sj rfl (λh a=>sK h p (a.bp ae) f d y (cR (λL=>insertC L x b an aM)) _ [ptr _,ptr _,ptr _] On (λw' g F c i j=>P8 w' _ _ _ x b an aM (c.dD (a.has cp) (a.apart ae cp)) (c.dD (a.has bF) (a.apart ae bF)) (c.dD (a.has aQ) (a.apart ae aQ)) F _ _ _ _ j (oH d i).1)) (λz A=>?_);refine ar ?_;intro B k;exact aP.bP _ bz rfl (k.aw ae)
theorem P9 (w:World) (d e b_:Nat) (x b an aM:Int) (h: (aD d [.int .i64 x] 3).pred w) (i: (aD e [.int .i64 b] 3).pred w) (k: (aD b_ [.int .i64 an,.int .i64 aM] 99).pred w) (F:Nat→Prop) (A:Option Addr) (n c:Nat) (row:List bh) (f:Rd bJ w F A n c row) (q:row.length≤1000000):
 Calls prog 390 ([]++[Value.slice A n c]++[ptr d,ptr e,ptr b_]).toArray w (jf (cR (λL=>jS L x b an aM) row) w):=by
 have r:=f.len
 refine aW func390 ntmps390 ?_;refine aK ?_;refine ba bM rfl rfl (λg a=>a.bV h (by (simp;done)) rfl) ?_;refine ba bM rfl rfl (λg a=>a.bV i (by (simp;done)) rfl) ?_;refine cw gq rfl rfl rfl (λg a j u l=>a.jy (sz:=2) k (by (simp;done)) rfl j u l) ?_;refine gg (ι:=Value) (c':=λv=>dL v (cR (λL=>jS L x b an aM) row)) rfl OA rfl (λm o=>PY m F A n c row (f.ext o.ext av) aa x b an aM) (λs _=>?_);refine ay ?_;intro t p;exact fb.of _ aU p
theorem P_ (w:World) (p:bq) (e:bb w (bB p)) (f:cV p.r) (d:cZ p.abs) (y x b an aM:Int):
 Calls prog 332 [ptr p.g,.int .i64 y,.int .i64 x,.int .i64 b,.agg [.int .i64 an,.int .i64 aM].toArray].toArray w (hI p (AG p.abs y x b an aM) w):=by
 refine bI func332 ntmps332 e ?_;refine ah ?_;intro l m n;refine aq ?_;intro o q s;refine aq ?_;intro t u v;refine al ?_;refine aZ (ι:=bq) ae rfl sj rfl (λh a=>sK h p (a.bp ae) f d y (cR (λL=>jS L x b an aM)) _ [ptr _,ptr _,ptr _] Oz (λw' g F c i j=>P9 w' _ _ _ x b an aM (c.dD (a.has cp) (a.apart ae cp)) (c.dD (a.has bF) (a.apart ae bF)) (c.dD (a.has aQ) (a.apart ae aQ)) F _ _ _ _ j (oH d i).1)) (λz A=>?_);refine ar ?_;intro B k;exact aP.bP _ bz rfl (k.aw ae)
theorem Qa (w:World) (b d b_:Nat) (x z an aM:Int) (g: (aD b [.int .i64 x] 3).pred w) (h: (aD d [.int .i64 z] 3).pred w) (i: (aD b_ [.int .i64 an,.int .i64 aM] 99).pred w) (F:Nat→Prop) (A:Option Addr) (n c:Nat) (row:List bh) (e:Rd bJ w F A n c row) (p:row.length≤1000000):
 Calls prog 316 ([]++[Value.slice A n c]++[ptr b,ptr d,ptr b_]).toArray w (jf (cR (λL=>kt L x z an aM) row) w):=by
 have q:=e.len
 refine aW func316 ntmps316 ?_;refine aK ?_;refine ba bM rfl rfl (λf a=>a.bV g (by (simp;done)) rfl) ?_;refine ba bM rfl rfl (λf a=>a.bV h (by (simp;done)) rfl) ?_;refine cw gq rfl rfl rfl (λf a j u k=>a.jy (sz:=2) i (by (simp;done)) rfl j u k) ?_;refine gg (ι:=Value) (c':=λv=>dL v (cR (λL=>kt L x z an aM) row)) rfl NY rfl (λl m=>PW l F A n c row (e.ext m.ext av) aa x z an aM) (λr _=>?_);refine ay ?_;intro s o;exact fb.of _ aU o
theorem Qb (w:World) (p:bq) (b:bb w (bB p)) (c:cV p.r) (a:cZ p.abs) (y:Int):
 Calls prog 373 [ptr p.g,.int .i64 y].toArray w (hI p (xm p.abs y) w):=by
 refine bI func373 ntmps373 b ?_;refine ah ?_;refine aZ (ι:=bq) (vs:=[ptr p.g,.int .i64 y,.func (.func 416) [].toArray [].toArray]) ae rfl sj rfl (λd e=>sK d p (e.bp ae) c a y (cR mC) _ [] OM (λw' g F j f h=>P0 w' F _ _ _ _ h (oH a f).1)) (λk l=>?_);refine ar ?_;intro m i;exact aP.bP _ bz rfl (i.aw ae)
end Go.Proofs.YtkeokgcdnfjaaaaGreatDoor.Mq
