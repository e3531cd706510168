/- part 13 of the proof -/
import Derived.Test.YtoghoobfpcadbaaGreatDoorQ12
namespace Go.Proofs.YtoghoobfpcadbaaGreatDoor.Mq
open Go Go.RowKit Go.Proofs Tryz
def ht (L:List bj) (q:Nat) (m:List UInt8):List bj:=match L[q]? with | some d=>L.set q (Gb d m) | none=>L
def eB (L:List bj) (x r:Int):List bj:=
 if x<0∨(L.length:Int)≤x then L else
 match L[x.toNat]? with
 | none=>L
 | some c=>
  if c.r=0∨dC r≠0 then L else
  if 32<(c.more++fT r).length then L else
  ht (if c.half=1 then ht L (x.toNat+1) (c.more++fT r) else if c.half=2 then ht L (x.toNat - 1) (c.more++fT r) else L) x.toNat (c.more++fT r)
theorem AN (L:List bj) (q:Nat) (m:List UInt8): (ht L q m).length=L.length:=by
 unfold ht;split <;> simp
theorem fE (L:List bj) (x r:Int): (eB L x r).length=L.length:=by
 unfold eB;split
 rfl
 split
 rfl
 split
 rfl
 split
 rfl
 rw[AN];split
 exact AN _ _ _;split
 exact AN _ _ _;rfl
theorem P_ {L:List bj}:dg L=L→ ∀q c,L[q]? = some c→(c.half=1→q+1<L.length)∧(c.half=2→0<q):=by
 fun_induction dg L with
 | case1=>intro _ q c h;simp at h
 | case2 c=>
  intro b q d h;obtain⟨rfl,rfl⟩ :q=0∧c=d:=by
   cases q with
   | zero=>simpa using h
   | succ q=>simp at h
  have a: (if c.half=0∨c.half=3 then c else gR c.at_)=c:=by simpa using b
  constructor
  intro f;rw[ag aa] at a
  rw[←a] at f;simp[gR] at f
  intro f;rw[ag aa] at a
  rw[←a] at f;simp[gR] at f
 | case3 c d l j g=>
  intro b q e h;have i:dg (d::l)=d::l:=by simpa using b
  cases q with
  | zero=>
   have:c=e:=by simpa using h
   subst this;exact⟨λa=>by omega,λa=>by omega⟩
  | succ q=>
   have:=g i q e (by simpa using h)
   exact⟨λa=>by have:=this.1 a;simp at this ⊢;omega,λ_=>by omega⟩
 | case4 c d l j ai g=>
  intro b q e h;have i:dg l=l:=by simpa using b
  match q,h with
  | 0,h=>
   have:c=e:=by simpa using h
   subst this;refine⟨λ_=>by simp,λf=>?_⟩;simp[pY] at ai
   omega
  | 1,h=>
   have:d=e:=by simpa using h
   subst this;refine⟨λa=>?_,λ_=>by omega⟩;simp[pY] at ai
   omega
  | q+2,h=>
   have:=g i q e (by simpa using h)
   exact⟨λa=>by have:=this.1 a;simp;omega,λ_=>by omega⟩
 | case5 c d l j ai g=>
  intro b q e h;have k:gR c.at_=c∧dg (d::l)=d::l:=by simpa using b
  cases q with
  | zero=>
   have:c=e:=by simpa using h
   subst this;have m:c.half=0:=by rw[←k.1];rfl
   exact⟨λa=>by omega,λa=>by omega⟩
  | succ q=>
   have:=g k.2 q e (by simpa using h)
   exact⟨λa=>by have:=this.1 a;simp at this ⊢;omega,λ_=>by omega⟩
theorem fu {L:List bj} {q:Nat} {m:List UInt8} {c:bj} (h:L[q]? = some c): (bJ.all L).set (q*8+1) (.string (bs m))=bJ.all (ht L q m):=by
 have:=bx.py bJ (j:=1) (a':=Gb c m) (v:= .string (bs m)) h aZ rfl
 rw[ht,h];exact this
theorem Qa (w:World) (t u:Nat) (x r:Int) (l: (aE t [.int .i64 x] 3).pred w) (K: (aE u [.int .i32 r] 21).pred w)
 (v:Value) (L:List bj) (h: (dQ v L).pred w) (Y:L.length≤1000000) (M:dg L=L) (N: ∀c∈L,c.more.length≤1000000) (ak: ∀k∈v.ownBlock.toList,k≠t∧k≠u):Calls prog 431 ([]++[v]++[ptr t,ptr u]).toArray w (dy v (eB L x r) w):=by
 have Z:t∉v.ownBlock.toList:=λC=>(ak _ C).1 rfl
 have Za:u∉v.ownBlock.toList:=λC=>(ak _ C).2 rfl
 have Zb:=AA r
 refine calls (n:=63) func431 rfl ntmps431 rfl ?_;refine cL (H':=af w v.ownBlock.toList [dQ v L]) ?_ (Sub.refl _) (sR h);refine hE Has.head (λA Zc O Zd Ze Zf P=>?_);subst O;refine ah ?_;refine a7 bM rfl rfl (λj i=>i.bZ l bA rfl) ?_;refine aq ?_;refine aX 7 rfl (λD=>?_) (λD=>?_)
 ·have Q:=a1 D
  refine jC ?_;intro m b;exact dy.of rfl b aQ (by rw[eB,ay aa]) (fE _ _ _);all_goals have e: ((y:Int)).toNat=y:=hc y
  all_goals first | exact dy.of rfl b fM (by rw[eB,ag aa,e,a];dsimp only;rw[ay aa]) (fE _ _ _) | exact dy.of rfl b fM (by rw[eB,ag aa,e,a];dsimp only;rw[ag aa,ay aa]) (fE _ _ _) | skip
  all_goals first | exact dy.of rfl b fM (by rw[eB,ag aa,e,a];dsimp only;rw[ag aa,ag aa,ay aa];exact (aV (λz=>List.set z (y*8+1) (Value.string (bs (c.more++fT r)))) (fu f)).trans (fu (c:=c) (by rw[ht,f];dsimp only;rw[jx aa];exact a))) (fE _ _ _) | exact dy.of rfl b fM (by rw[eB,ag aa,e,a];dsimp only;rw[ag aa,ag aa,ag aa,ay aa];exact (aV (λz=>List.set z (y*8+1) (Value.string (bs (c.more++fT r)))) (fu f)).trans (fu (c:=c) (by rw[ht,f];dsimp only;rw[jx aa];exact a))) (fE _ _ _) | exact dy.of rfl b fM (by rw[eB,ag aa,e,a];dsimp only;rw[ag aa,ag aa,ag aa,ag aa];exact fu a) (fE _ _ _)
 ·have Q:=bc D
  refine ar ?_;refine a7 bM rfl rfl (λj i=>i.bZ l bA rfl) ?_;refine aL ?_;refine aX 13 rfl (λaK=>?_) (λaK=>?_)
  ·have R:=a1 aK
   refine e4 ?_;intro m b;exact dy.of rfl b aQ (by rw[eB,ay aa]) (fE _ _ _);all_goals have e: ((y:Int)).toNat=y:=hc y
   all_goals first | exact dy.of rfl b fM (by rw[eB,ag aa,e,a];dsimp only;rw[ay aa]) (fE _ _ _) | exact dy.of rfl b fM (by rw[eB,ag aa,e,a];dsimp only;rw[ag aa,ay aa]) (fE _ _ _) | skip
   all_goals first | exact dy.of rfl b fM (by rw[eB,ag aa,e,a];dsimp only;rw[ag aa,ag aa,ay aa];exact (aV (λz=>List.set z (y*8+1) (Value.string (bs (c.more++fT r)))) (fu f)).trans (fu (c:=c) (by rw[ht,f];dsimp only;rw[jx aa];exact a))) (fE _ _ _) | exact dy.of rfl b fM (by rw[eB,ag aa,e,a];dsimp only;rw[ag aa,ag aa,ag aa,ay aa];exact (aV (λz=>List.set z (y*8+1) (Value.string (bs (c.more++fT r)))) (fu f)).trans (fu (c:=c) (by rw[ht,f];dsimp only;rw[jx aa];exact a))) (fE _ _ _) | exact dy.of rfl b fM (by rw[eB,ag aa,e,a];dsimp only;rw[ag aa,ag aa,ag aa,ag aa];exact fu a) (fE _ _ _)
  ·have R:=bc aK
   refine ah ?_;refine a7 bM rfl rfl (λj i=>i.bZ l bA rfl) ?_;obtain⟨g,rfl⟩:=P aa;obtain⟨y,rfl⟩ : ∃y:Nat,x=(y:Int):=⟨x.toNat,aa⟩;obtain⟨c,a⟩ : ∃c,L[y]? = some c:=⟨L[y]'aa,bG _⟩;have Zg:=N c (dc a)
   have F:=P_ M y c a
   refine ar ?_;refine bw (q:=y) dB rfl rfl rfl rfl aa aa ?_;refine ah ?_;refine a7 jz rfl rfl (λj i=>i.k4 (E:=bJ) aQ a 0 _ rfl) ?_;refine aS ?_;refine aX 21 rfl (λG=>?_) (λG=>?_)
   ·have S:=a1 G
    refine aR ?_;intro m b;all_goals have e: ((y:Int)).toNat=y:=hc y
    all_goals exact dy.of rfl b aQ (by rw[eB,ag aa,e,a];dsimp only;rw[ay aa]) (fE _ _ _)
    all_goals first | exact dy.of rfl b fM (by rw[eB,ag aa,e,a];dsimp only;rw[ag aa,ag aa,ay aa];exact (aV (λz=>List.set z (y*8+1) (Value.string (bs (c.more++fT r)))) (fu f)).trans (fu (c:=c) (by rw[ht,f];dsimp only;rw[jx aa];exact a))) (fE _ _ _) | exact dy.of rfl b fM (by rw[eB,ag aa,e,a];dsimp only;rw[ag aa,ag aa,ag aa,ay aa];exact (aV (λz=>List.set z (y*8+1) (Value.string (bs (c.more++fT r)))) (fu f)).trans (fu (c:=c) (by rw[ht,f];dsimp only;rw[jx aa];exact a))) (fE _ _ _) | exact dy.of rfl b fM (by rw[eB,ag aa,e,a];dsimp only;rw[ag aa,ag aa,ag aa,ag aa];exact fu a) (fE _ _ _)
   ·have S:=bc G
    refine ar ?_;refine a7 jz rfl rfl (λj i=>i.bZ K bA rfl) ?_;refine ar ?_;refine ao rfl z1 rfl (λH a=>AJ H r) ?_;refine ax ?_;refine aj (λs=>?_) (λs=>?_)
    ·skip
     refine ah ?_;intro m b;all_goals have e: ((y:Int)).toNat=y:=hc y
     all_goals exact dy.of rfl b aQ (by rw[eB,ag aa,e,a];dsimp only;rw[ay aa]) (fE _ _ _)
     all_goals first | exact dy.of rfl b fM (by rw[eB,ag aa,e,a];dsimp only;rw[ag aa,ag aa,ay aa];exact (aV (λz=>List.set z (y*8+1) (Value.string (bs (c.more++fT r)))) (fu f)).trans (fu (c:=c) (by rw[ht,f];dsimp only;rw[jx aa];exact a))) (fE _ _ _) | exact dy.of rfl b fM (by rw[eB,ag aa,e,a];dsimp only;rw[ag aa,ag aa,ag aa,ay aa];exact (aV (λz=>List.set z (y*8+1) (Value.string (bs (c.more++fT r)))) (fu f)).trans (fu (c:=c) (by rw[ht,f];dsimp only;rw[jx aa];exact a))) (fE _ _ _) | exact dy.of rfl b fM (by rw[eB,ag aa,e,a];dsimp only;rw[ag aa,ag aa,ag aa,ag aa];exact fu a) (fE _ _ _)
    ·skip
     refine ah ?_;refine bF [0,1,2,3,4,5] 1 [[(6,false,[7,8])]] ?_;refine ar ?_;refine aI rfl (λB p=>(a7 bM rfl rfl (λT I=>by subst I;exact p.bZ l bA rfl) aC)) ?_;refine aI rfl (λB p=>(bw (q:=y) dB rfl rfl rfl rfl aa aa aC)) ?_;refine ar ?_;refine aI rfl (λB p=>(a7 k6 rfl rfl (λj U=>by subst U;exact p.k4 (E:=bJ) aQ a 1 _ rfl) aC)) ?_;refine aI rfl (λB p=>(a7 jz rfl rfl (λT I=>by subst I;exact p.bZ K bA rfl) aC)) ?_;refine aq ?_;refine ao rfl ER rfl (λH a=>F7 H r) ?_;refine ar ?_;refine aI rfl (λB p=>(eF rfl rfl rfl aa aC)) ?_;refine bB ?_;refine aj (λV=>?_) (λV=>?_)
     ·skip
      refine ah ?_;intro m b;have J:=Decidable.not_not.1 s
      all_goals have e: ((y:Int)).toNat=y:=hc y
      all_goals exact dy.of rfl b aQ (by rw[eB,ag aa,e,a];dsimp only;rw[ag aa,ay aa]) (fE _ _ _)
      all_goals first | exact dy.of rfl b fM (by rw[eB,ag aa,e,a];dsimp only;rw[ag aa,ag aa,ay aa];exact (aV (λz=>List.set z (y*8+1) (Value.string (bs (c.more++fT r)))) (fu f)).trans (fu (c:=c) (by rw[ht,f];dsimp only;rw[jx aa];exact a))) (fE _ _ _) | exact dy.of rfl b fM (by rw[eB,ag aa,e,a];dsimp only;rw[ag aa,ag aa,ag aa,ay aa];exact (aV (λz=>List.set z (y*8+1) (Value.string (bs (c.more++fT r)))) (fu f)).trans (fu (c:=c) (by rw[ht,f];dsimp only;rw[jx aa];exact a))) (fE _ _ _) | exact dy.of rfl b fM (by rw[eB,ag aa,e,a];dsimp only;rw[ag aa,ag aa,ag aa,ag aa];exact fu a) (fE _ _ _)
     ·skip
      refine al ?_;refine a7 bM rfl rfl (λj i=>i.bZ l bA rfl) ?_;refine bw (q:=y) dB rfl rfl rfl rfl aa aa ?_;refine ar ?_;refine a7 bM rfl rfl (λj i=>i.k4 (E:=bJ) aQ a 2 _ rfl) ?_;refine aJ ?_;refine aj (λW=>?_) (λW=>?_)
      ·skip
       obtain⟨d,f⟩ : ∃d,L[y+1]? = some d:=⟨L[y+1]'(F.1 aa),bG _⟩;have Zh:=F.1 aa
       refine aq ?_;refine a7 bM rfl rfl (λj i=>i.bZ l bA rfl) ?_;refine aq ?_;refine bw (q:=y+1) dB rfl rfl rfl rfl aa aa ?_;refine ar ?_;refine k3 (o:=(y+1)*8+1) k6 rfl rfl cA (by simp[Addr.add_lit]) rfl (by rw[bJ.dE];show (y+1)*8+1<L.length*8;omega) ?_;refine ax ?_;refine a7 bM rfl rfl (λj i=>i.bZ l bA rfl) ?_;refine ar ?_;refine bw (q:=y) dB rfl rfl rfl rfl aa aa ?_;refine ar ?_;refine k3 (o:=y*8+1) k6 rfl rfl cA (by simp[Addr.add_lit]) rfl (by (rw[fL,bJ.dE];show y*8+1<L.length*8;omega)) ?_;refine aq ?_;intro m b;have J:=Decidable.not_not.1 s
       all_goals have e: ((y:Int)).toNat=y:=hc y
       all_goals skip
       all_goals exact dy.of rfl b aQ (by rw[eB,ag aa,e,a];dsimp only;rw[ag aa,ag aa,ay aa];exact (aV (λz=>List.set z (y*8+1) (Value.string (bs (c.more++fT r)))) (fu f)).trans (fu (c:=c) (by rw[ht,f];dsimp only;rw[jx aa];exact a))) (fE _ _ _)
      ·skip
       refine al ?_;refine aj (λX=>?_) (λX=>?_)
       ·skip
        have Zi:=F.2 aa
        obtain⟨d,f⟩ : ∃d,L[y - 1]? = some d:=⟨L[y - 1]'aa,bG _⟩;refine aq ?_;refine a7 bM rfl rfl (λj i=>i.bZ l bA rfl) ?_;refine aq ?_;refine bw (q:=y - 1) dB rfl rfl rfl rfl aa aa ?_;refine ar ?_;refine k3 (o:=(y - 1)*8+1) k6 rfl rfl cA (by simp[Addr.add_lit]) rfl (by rw[bJ.dE];show (y - 1)*8+1<L.length*8;omega) ?_;refine ax ?_;refine a7 bM rfl rfl (λj i=>i.bZ l bA rfl) ?_;refine ar ?_;refine bw (q:=y) dB rfl rfl rfl rfl aa aa ?_;refine ar ?_;refine k3 (o:=y*8+1) k6 rfl rfl cA (by simp[Addr.add_lit]) rfl (by (rw[fL,bJ.dE];show y*8+1<L.length*8;omega)) ?_;refine aq ?_;intro m b;have J:=Decidable.not_not.1 s
        all_goals have e: ((y:Int)).toNat=y:=hc y
        all_goals skip
        all_goals exact dy.of rfl b aQ (by rw[eB,ag aa,e,a];dsimp only;rw[ag aa,ag aa,ag aa,ay aa];exact (aV (λz=>List.set z (y*8+1) (Value.string (bs (c.more++fT r)))) (fu f)).trans (fu (c:=c) (by rw[ht,f];dsimp only;rw[jx aa];exact a))) (fE _ _ _)
       ·skip
        refine ax ?_;refine a7 bM rfl rfl (λj i=>i.bZ l bA rfl) ?_;refine ar ?_;refine bw (q:=y) dB rfl rfl rfl rfl aa aa ?_;refine ar ?_;refine k3 (o:=y*8+1) k6 rfl rfl cA (by simp[Addr.add_lit]) rfl (by (rw[bJ.dE];show y*8+1<L.length*8;omega)) ?_;refine aq ?_;intro m b;have J:=Decidable.not_not.1 s
        all_goals have e: ((y:Int)).toNat=y:=hc y
        all_goals skip
        all_goals exact dy.of rfl b aQ (by rw[eB,ag aa,e,a];dsimp only;rw[ag aa,ag aa,ag aa,ag aa];exact fu a) (fE _ _ _)
theorem Chunk.dL {w w':World} (c:Chunk) (h:c.pred w) (a:Ext [] w w'):c.pred w':=c.loc w w' (λk b=>a.block k (c.low w h k b) av) h
abbrev ji (L:List bj) (w:World):=fd (λv:Value=>v) (λv=>dQ v L) (λ_=>True) w
theorem q9 (w:World) (F:Nat→Prop) (A:Option Addr) (n c:Nat) (row:List bj) (m:Rd bJ w F A n c row) (D:n≤1000000) (f:List bj→List bj) (d:FuncId) (cap:List Value) (o:ad prog d) (p: ∀L,(f L).length=L.length)
 (q: ∀w' v,Ext [] w w'→(∀k∈v.ownBlock.toList,w.heap.size≤k)→(dQ v (dg row)).pred w'→Calls prog d ([]++[v]++cap).toArray w' (dy v (f (dg row)) w')):
 Calls prog 289 [.slice A n c,.func (.func d) [].toArray cap.toArray].toArray w (ji (cV f row) w):=by
 have G:=m.len
 have r:=hN row
 have H:=p (dg row)
 refine aW func289 ntmps289 ?_;refine jS 283 8 ?_;refine aL ?_;refine nc (E:=bJ) dB rfl rfl rfl (λ_=>by exact cA) (λw' b=>m.ext b.ext av) (by simp only[maxLen];omega) aa (λa s=>?_);refine aS ?_;have t: ∀k∈a.ownBlock.toList,w.heap.size≤k:=λg u=>by
  rcases s g (by simpa using u) with h | h
  simp[Value.ownBlock] at h
  exact h.1
 have y:0+n=row.length:=by omega
 rw[y];refine cL (H':=af w [] [dQ a row]) ?_ (Sub.refl _) (λx z=>z);refine aq ?_;refine qO (v:= .tuple #[]) (c:=dQ a row) (c':=dQ a (dg row)) rfl w0 rfl cA rfl (λw' b=>(xk w' a row (b.has Has.head) aa).mono ?_) ?_;rintro e B ⟨i,j,l⟩;exact⟨i,j,AL l rfl r⟩;refine al ?_;refine P3 (first:=[]) (cap:=cap) (v:= .tuple #[]) (c:=dQ a (dg row)) (c':=dQ a (f (dg row))) rfl rfl o rfl cA rfl (uv _ _ _ _ _) (λw' b=>q w' a b.ext t (b.has Has.head)) ?_;refine ax ?_;refine qO (v:= .tuple #[]) (c:=dQ a (f (dg row))) (c':=dQ a (cV f row)) rfl w0 rfl cA rfl (λw' b=>(xk w' a (f (dg row)) (b.has Has.head) aa).mono ?_) ?_;rintro e B ⟨i,j,l⟩;exact⟨i,j,AL l rfl (hN _)⟩;refine aR ?_;intro I C;exact fd.of a aT C
theorem Qb (w:World) (F:Nat→Prop) (A:Option Addr) (n c:Nat) (row:List bj) (h:Rd bJ w F A n c row) (i:n≤1000000) (x r:Int) (a:hM):
 Calls prog 337 [.slice A n c,.int .i64 x,.int .i32 r,.agg a.enc.toArray].toArray w (ji (cV (λL=>jG L x r a) row) w):=by
 have m:=h.len
 refine aW func337 ntmps337 ?_;refine ah ?_;intro o p q;refine ar ?_;intro s t u;refine ar ?_;intro y z B;refine aD ?_;refine gm (ι:=Value) (c':=λv=>dQ v (cV (λL=>jG L x r a) row)) rfl pM rfl (λj b=>q9 j F A n c row (h.ext b.ext av) i (λL=>jG L x r a) _ [ptr _,ptr _,ptr _] OO (λL=>q8 L x r a) (λw' v d f ai=>P5 w' _ _ _ x r a (Chunk.dL _ (b.has bH) d) (Chunk.dL _ (b.has cu) d) (Chunk.dL _ (b.has aQ) d) v _ ai (by rw[hN];omega) (λk g=>⟨λe=>by have:=f k g;have:=b.lt (k:=k) (by subst e;simp[aA,aE]);omega,λe=>by have:=f k g;have:=b.lt (k:=k) (by subst e;simp[aA,aE]);omega,λe=>by have:=f k g;have:=b.lt (k:=k) (by subst e;simp[aA,aE]);omega⟩))) (λC _=>?_);refine ax ?_;intro D l;exact fd.of _ aT (l.aw ae)
theorem Qc (w:World) (F:Nat→Prop) (A:Option Addr) (n c:Nat) (row:List bj) (g:Rd bJ w F A n c row) (h:n≤1000000) (x y an aM:Int):
 Calls prog 334 [.slice A n c,.int .i64 x,.int .i64 y,.agg [.int .i64 an,.int .i64 aM].toArray].toArray w (ji (cV (λL=>kz L x y an aM) row) w):=by
 have l:=g.len
 refine aW func334 ntmps334 ?_;refine ah ?_;intro m o p;refine ar ?_;intro q r s;refine ar ?_;intro t u z;refine aD ?_;refine gm (ι:=Value) (c':=λv=>dQ v (cV (λL=>kz L x y an aM) row)) rfl pM rfl (λi a=>q9 i F A n c row (g.ext a.ext av) h (λL=>kz L x y an aM) _ [ptr _,ptr _,ptr _] ON (λL=>xv L _ _ _ _) (λw' v b d ai=>P7 w' _ _ _ x y an aM (Chunk.dL _ (a.has cu) b) (Chunk.dL _ (a.has bH) b) (Chunk.dL _ (a.has aQ) b) v _ ai (by rw[hN];omega) (λk f=>⟨λe=>by have:=d k f;have:=a.lt (k:=k) (by subst e;simp[aA,aE]);omega,λe=>by have:=d k f;have:=a.lt (k:=k) (by subst e;simp[aA,aE]);omega,λe=>by have:=d k f;have:=a.lt (k:=k) (by subst e;simp[aA,aE]);omega⟩))) (λB _=>?_);refine ax ?_;intro C j;exact fd.of _ aT (j.aw ae)
theorem Qd (w:World) (F:Nat→Prop) (A:Option Addr) (n c:Nat) (row:List bj) (g:Rd bJ w F A n c row) (h:n≤1000000) (x y an aM:Int):
 Calls prog 392 [.slice A n c,.int .i64 x,.int .i64 y,.agg [.int .i64 an,.int .i64 aM].toArray].toArray w (ji (cV (λL=>insertC L x y an aM) row) w):=by
 have l:=g.len
 refine aW func392 ntmps392 ?_;refine ah ?_;intro m o p;refine ar ?_;intro q r s;refine ar ?_;intro t u z;refine aD ?_;refine gm (ι:=Value) (c':=λv=>dQ v (cV (λL=>insertC L x y an aM) row)) rfl pM rfl (λi a=>q9 i F A n c row (g.ext a.ext av) h (λL=>insertC L x y an aM) _ [ptr _,ptr _,ptr _] O4 (λL=>sO L _ _ _ _) (λw' v b d ai=>P8 w' _ _ _ x y an aM (Chunk.dL _ (a.has cu) b) (Chunk.dL _ (a.has bH) b) (Chunk.dL _ (a.has aQ) b) v _ ai (by rw[hN];omega) (λk f=>⟨λe=>by have:=d k f;have:=a.lt (k:=k) (by subst e;simp[aA,aE]);omega,λe=>by have:=d k f;have:=a.lt (k:=k) (by subst e;simp[aA,aE]);omega,λe=>by have:=d k f;have:=a.lt (k:=k) (by subst e;simp[aA,aE]);omega⟩))) (λB _=>?_);refine ax ?_;intro C j;exact fd.of _ aT (j.aw ae)
theorem Qe (w:World) (F:Nat→Prop) (A:Option Addr) (n c:Nat) (row:List bj) (g:Rd bJ w F A n c row) (h:n≤1000000) (x y an aM:Int):
 Calls prog 407 [.slice A n c,.int .i64 x,.int .i64 y,.agg [.int .i64 an,.int .i64 aM].toArray].toArray w (ji (cV (λL=>jZ L x y an aM) row) w):=by
 have l:=g.len
 refine aW func407 ntmps407 ?_;refine ah ?_;intro m o p;refine ar ?_;intro q r s;refine ar ?_;intro t u z;refine aD ?_;refine gm (ι:=Value) (c':=λv=>dQ v (cV (λL=>jZ L x y an aM) row)) rfl pM rfl (λi a=>q9 i F A n c row (g.ext a.ext av) h (λL=>jZ L x y an aM) _ [ptr _,ptr _,ptr _] O5 (λL=>sP L _ _ _ _) (λw' v b d ai=>P9 w' _ _ _ x y an aM (Chunk.dL _ (a.has cu) b) (Chunk.dL _ (a.has bH) b) (Chunk.dL _ (a.has aQ) b) v _ ai (by rw[hN];omega) (λk f=>⟨λe=>by have:=d k f;have:=a.lt (k:=k) (by subst e;simp[aA,aE]);omega,λe=>by have:=d k f;have:=a.lt (k:=k) (by subst e;simp[aA,aE]);omega,λe=>by have:=d k f;have:=a.lt (k:=k) (by subst e;simp[aA,aE]);omega⟩))) (λB _=>?_);refine ax ?_;intro C j;exact fd.of _ aT (j.aw ae)
theorem xw {P:bj→Prop} (f: ∀c,P c→P (gR c.at_)): ∀{L:List bj},(∀c∈L,P c)→ ∀c∈dg L,P c:=by
 intro L;fun_induction dg L with
 | case1=>intro h;exact h
 | case2 c=>
  intro h d ak;rw[ey] at ak
  subst ak;split
  exact h c av;exact f c (h c av)
 | case3 c d l g a=>
  intro h e he;rcases eZ.1 he with rfl | he
  exact h _ av;exact a (λx b=>h x (by simp[eZ.1 b])) e he
 | case4 c d l g ai a=>
  intro h e he;rcases eZ.1 he with rfl | he
  exact h _ av;rcases eZ.1 he with rfl | he
  exact h _ av;exact a (λx b=>h x (by simp[b])) e he
 | case5 c d l g ai a=>
  intro h e he;rcases eZ.1 he with rfl | he
  exact f c (h c av);exact a (λx b=>h x (by simp[eZ.1 b])) e he
theorem Qf (w:World) (F:Nat→Prop) (A:Option Addr) (n c:Nat) (row:List bj) (b:Rd bJ w F A n c row) (h:n≤1000000) (i: ∀c∈row,c.more.length≤1000000) (x r:Int):
 Calls prog 388 [.slice A n c,.int .i64 x,.int .i32 r].toArray w (ji (cV (λL=>eB L x r) row) w):=by
 have m:=b.len
 refine aW func388 ntmps388 ?_;refine ah ?_;intro o p q;refine ar ?_;intro s t u;refine aD ?_;refine gm (ι:=Value) (c':=λv=>dQ v (cV (λL=>eB L x r) row)) rfl pM rfl (λj a=>q9 j F A n c row (b.ext a.ext av) h (λL=>eB L x r) _ [ptr _,ptr _] O2 (λL=>fE L x r) (λw' v d f ai=>Qa w' _ _ x r (Chunk.dL _ (a.has bH) d) (Chunk.dL _ (a.has aQ) d) v _ ai (by rw[hN];omega) (FO row) (xw (λ_ _=>bP _) i) (λk g=>⟨λe=>by have:=f k g;have:=a.lt (k:=k) (by subst e;simp[aA,aE]);omega,λe=>by have:=f k g;have:=a.lt (k:=k) (by subst e;simp[aA,aE]);omega⟩))) (λy _=>?_);refine ax ?_;intro z l;exact fd.of _ aT (l.aw ae)
theorem Qg (w:World) (F:Nat→Prop) (A:Option Addr) (n c:Nat) (row:List bj) (a:Rd bJ w F A n c row) (b:n≤1000000):
 Calls prog 432 [.slice A n c].toArray w (ji (cV mG row) w):=by
 have g:=a.len
 refine aW func432 ntmps432 ?_;refine aL ?_;refine gm (ι:=Value) (vs:=[.slice A n c,.func (.func 453) [].toArray [].toArray]) (c':=λv=>dQ v (cV mG row)) rfl pM rfl (λd e=>q9 d F A n c row (a.ext e.ext av) b mG _ [] O9 xu (λw' v h i ai=>P4 w' v _ ai (by rw[hN];omega))) (λv4 _=>?_);refine ax ?_;intro j f;exact fd.of _ aT (f.aw ae)
theorem Qh (w:World) (F:Nat→Prop) (A:Option Addr) (n c:Nat) (row:List bj) (a:Rd bJ w F A n c row) (b:n≤1000000):
 Calls prog 201 [.slice A n c].toArray w (ji (cV id row) w):=by
 have i:=a.len
 refine aW func201 ntmps201 ?_;refine aL ?_;refine gm (ι:=Value) (vs:=[.slice A n c,.func (.func 290) [].toArray [].toArray]) (c':=λv=>dQ v (cV id row)) rfl pM rfl (λd f=>q9 d F A n c row (a.ext f.ext av) b id _ [] EY (λ_=>rfl) (λw' v j k ai=>(FQ w' v).mono (λe l h=>⟨h.1,h.2.mono av,Chunk.dL _ ai h.2⟩))) (λv4 _=>?_);refine ax ?_;intro m g;exact fd.of _ aT (g.aw ae)
section
structure b4 where
 jH:List bS
 room:Int
 cJ:List bS
 cols:Int
 gd:List ec
def q_ (cols:Int) (k v:Int):bS:=(List.replicate cols.toNat (jY k v),false)
def nA (p:b4) (y:Int) (f:bS→bS):b4:=
 if 0≤y∧y<p.cJ.length then { p with cJ:=p.cJ.modify y.toNat f } else p
def nB (p:b4) (y:Int) (f:List bj→List bj):b4:=nA p y (λr=>(f r.1,r.2))
def iL (p:b4) (y:Int) (b:Bool):b4:=nA p y (λr=>(r.1,b))
def fF (p:b4) (k a n:Int):b4:={ p with gd:=p.gd++[⟨k,a,n⟩] }
def u0 (p:b4) (y x r:Int) (a:hM):b4:=nB p y (cV (λL=>jG L x r a))
def xx (p:b4) (y x r:Int):b4:=nB p y (cV (λL=>eB L x r))
def xy (p:b4) (y:Int):b4:=nB p y (cV mG)
def u1 (p:b4) (y x n k v:Int):b4:=nB p y (cV (λL=>insertC L x n k v))
def AO (p:b4) (y x n k v:Int):b4:=nB p y (cV (λL=>jZ L x n k v))
def eraseP (p:b4) (y a b k v:Int):b4:=
 if 0≤y∧y<p.cJ.length then
  let q:=nB p y (cV (λL=>kz L a b k v))
  if a<p.cols∧p.cols≤b then (if a≤0 then iL (iL q (y+1) false) y false else iL q (y+1) false) else q
 else p
structure c7 (p:b4):Prop where
 cols:2≤p.cols∧p.cols≤1000
 rows:1≤p.cJ.length∧p.cJ.length≤1000
 wide: ∀r∈p.cJ,(r.1.length:Int)=p.cols∧ ∀c∈r.1,c.more.length≤32
 nC: ∀r∈p.jH,(r.1.length:Int)=p.cols∧ ∀c∈r.1,c.more.length≤32
 room: (p.jH.length:Int)≤p.room∧p.room≤100000
def bq.abs (p:bq):b4:=⟨p.r.rows,p.r.room,b0 p.s.l,p.cols,p.be.l⟩
def hQ (p:bq) (q:b4) (w:World):Ending→World→Prop:=aO (λ_:bq=>Value.tuple #[]) (bD p) bD (λz=>z.g=p.g∧cU z.r∧z.abs=q) w
theorem af.apart {b w:World} {S:List Nat} {cs cs' l:List Chunk} (h:af b S cs w) (d:aB cs l cs') {c:Chunk} (e:Has cs' c): ∀k∈c.cm,k∉aA l:=by
 have a:=(h.perm d.perm).nodup
 rw[iG] at a
 intro k f g;exact (fS.1 a).2.2 k g k (e3.2 ⟨c,e.mem,f⟩) rfl
def setRow (p:bq) (y:Nat) (r:bT):bq:={ p with s:={ p.s with l:=p.s.l.set y r } }
theorem AP (p:bq) {y:Nat} {g r:bT} (a:p.s.l[y]? = some g) {f:bS→bS} (c:f g.fo=r.fo): (setRow p y r).abs=nA p.abs (y:Int) f:=by
 have d:=(cY.1 a).1
 have e: (0 :Int)≤(y:Int)∧(y:Int)<p.abs.cJ.length:=⟨aa,by simp[bq.abs,b0];omega⟩
 unfold nA;rw[ay e];simp only[bq.abs,setRow,b4.mk.injEq,true_and,and_true,hc];apply ms
 intro k;rw[List.getElem?_modify];simp only[b0,eJ,oa];by_cases b:y=k
 subst b;have h:=(cY.1 a).2
 simp[d,h,c]
 simp[b]
theorem Qi {b w:World} {S:List Nat} {cs cs':List Chunk} {p:bq} {y:Nat} {g:bT} {d:Option Addr} {c':Nat} {a:List bj} (f:p.s.l[y]? = some g) (h:af b S cs w)
 (i:aB cs [dQ (.slice d a.length c') a,p.s.cj,p.an,aU (cd p.r),own 144 2 p.s.val p.s.l.length ((cn.all p.s.l).set (y*2) (.slice d a.length c')),p.be.au] cs'):af b S (bD (setRow p y ⟨d,c',g.cont,a⟩)) w:=by
 have m:=h.aw i
 have n:=m.AD (k:=y) (c:=g.aG) (by simp[f])
 have o:=bx.py cn (j:=0) (a':=⟨d,c',g.cont,a⟩) (v:= .slice d a.length c') f aZ rfl
 have e:bD (setRow p y ⟨d,c',g.cont,a⟩)=[p.an,aU (cd p.r),own 144 2 p.s.val p.s.l.length ((cn.all p.s.l).set (y*2) (.slice d a.length c')),aU ((p.s.l.map bT.aG).set y (dQ (.slice d a.length c') a)),p.be.au]:=by
  have q:cn.all (p.s.l.set y ⟨d,c',g.cont,a⟩)=(cn.all p.s.l).set (y*2) (.slice d a.length c'):=o.symm
  simp only[bD,setRow,bq.an,nx,dd.val,dd.au,dd.cj,fL,q,ob]
 rw[e];exact n.aw ae
theorem Ge {b w:World} {S:List Nat} {cs cs':List Chunk} {p:bq} {y:Nat} {g:bT} {v:Bool} (a:p.s.l[y]? = some g) (d:af b S cs w)
 (f:aB cs [p.an,aU (cd p.r),own 144 2 p.s.val p.s.l.length ((cn.all p.s.l).set (y*2+1) (.bool v)),p.s.cj,p.be.au] cs'):af b S (bD (setRow p y ⟨g.A,g.c,v,g.cells⟩)) w:=by
 have h:=d.aw f
 have i:=bx.py cn (j:=1) (a':=⟨g.A,g.c,v,g.cells⟩) (v:= .bool v) a aZ rfl
 have k:=(cY.1 a).1
 have m:=(cY.1 a).2
 have e:bD (setRow p y ⟨g.A,g.c,v,g.cells⟩)=[p.an,aU (cd p.r),own 144 2 p.s.val p.s.l.length ((cn.all p.s.l).set (y*2+1) (.bool v)),p.s.cj,p.be.au]:=by
  have n:cn.all (p.s.l.set y ⟨g.A,g.c,v,g.cells⟩)=(cn.all p.s.l).set (y*2+1) (.bool v):=i.symm
  have o: (p.s.l.set y ⟨g.A,g.c,v,g.cells⟩).map bT.aG=p.s.l.map bT.aG:=by
   rw[ob];have:bT.aG ⟨g.A,g.c,v,g.cells⟩=(p.s.l.map bT.aG)[y]'(by simpa using k):=by
    rw[List.getElem_map,m]
   rw[this,List.set_getElem_self]
  simp only[bD,setRow,bq.an,nx,dd.val,dd.au,dd.cj,fL,n,o]
 rw[e];exact h
section
variable {P:Program} {n:Nat} {ops:Array Oper} {Q:cq} {rest:List Oper} {l:Fr} {d:Nat} {ty:TypeId} {pos:String} {a6:Array Edge}
variable {b:World} {S:List Nat} {cs:List Chunk}
theorem Qj {ι:Type} {ie:Operand} {args:List Operand} {da:Array TypeId} {f:FuncId} {first cap vs:List Value} {v:ι→Value} {c':ι→Chunk} {ok:ι→Prop} (ak:Nat.blt d n=true) (a:ba l ie=some (.func (.func f) first.toArray cap.toArray)) (g:ad P f) (j:cM l args=some vs)
 (k: ∀w,af b S cs w→Calls P f (first++vs++cap).toArray w (fd v c' ok w))
 (h: ∀i,ok i→az P n ops Q rest ((d,v i)::l) (af b S (c' i::cs))):
 az P n ops Q (⟨some d,.call ⟨.value ie,args.toArray,da⟩,ty,pos,a6,none⟩::rest) l (af b S cs):=by
 refine gO a ak g j λw c=>?_
 have:=k w c
 simp only[List.append_toArray];refine this.mono ?_;rintro e w' ⟨i,hi,rfl,m,ai,a,o⟩;exact⟨v i,rfl,(h i hi).at (c.add m ai a o)⟩
end
section
variable {P:Program} {n:Nat} {ops:Array Oper} {Q:cq} {rest:List Oper} {l:Fr} {d:Nat} {ty:TypeId} {pos:String} {a6:Array Edge}
variable {b:World} {S:List Nat} {cs:List Chunk}
theorem af.xz {α:Type} {E:bx α} {w:World} (h:af b S cs w) {e g m c:Nat} {L:List α} {v:Value} (d:Has cs (own e E.sz v m (E.all L))) (f:v= .slice (some ⟨g,0,none⟩) m c) {k:Nat} {a:α} (i:L[k]? = some a) (j:Nat) (u:Value) (l: (E.enc a)[j]? = some u):
 w.cell? (((⟨g,0,none⟩ :Addr).add (k*E.sz)).add j)=some u:=by
 subst f;exact h.k4 d i j u l
theorem AQ {x y:Operand} {t:Nat} {z v v0:Value} {p:Addr} {e sz m g c o:Nat} {xs:List Value} {cs':List Chunk} (a:v0= .slice (some ⟨g,0,none⟩) m c) (d:cN P t z) (f:ba l x=some (.pointer (some p))) (i:ba l y=some v) (j:bn cs (own e sz v0 m xs) (own e sz v0 m (xs.set o v)) cs') (ai:p=⟨g,o,none⟩)
 (k:v.oneCell'=true) (q:o<xs.length)
 (h:az P n ops Q rest l (af b S cs')):az P n ops Q (⟨none,.store t x y,ty,pos,a6,none⟩::rest) l (af b S cs):=by
 subst a;exact k3 d f i j ai k q h
theorem xA {x y:Operand} {t a:Nat} {z vs:List Value} {v0:Value} {p:Addr} {e sz m g c o:Nat} {xs:List Value} {cs':List Chunk} (d:v0= .slice (some ⟨g,0,none⟩) m c) (f:cG P t a z) (i:ba l x=some (.pointer (some p))) (j:ba l y=some (.agg vs.toArray)) (k:bn cs (own e sz v0 m xs) (own e sz v0 m (cZ xs o vs)) cs') (ai:p=⟨g,o,none⟩)
 (q:vs.length=a) (r:aH vs) (s:o+vs.length≤xs.length)
 (h:az P n ops Q rest l (af b S cs')):az P n ops Q (⟨none,.store t x y,ty,pos,a6,none⟩::rest) l (af b S cs):=by
 subst d;exact jT f i j k ai q r s h
end
theorem ra {w:World} {r:dd} (h:r.au.pred w) (c:0<r.l.length): ∃g,r.A=some ⟨g,0,none⟩:=by
 rcases h.2 with ⟨_,d⟩ | ⟨g,cap,am,a,_⟩
 omega
 injection a with b e f
 exact⟨g,b⟩
theorem sS (w:World) (p:bq) (u:a8 w (bD p)) (x:cU p.r) (G:c7 p.abs) (y:Int) (f:List bj→List bj) (j:FuncId) (cap:List Value) (H:ad prog j)
 (I: ∀w' (g:bT) F,af w (aA (bD p)) (bD p) w'→g∈p.s.l→Rd bJ w' F g.A g.cells.length g.c g.cells→Calls prog j ([]++[g.val]++cap).toArray w' (ji (f g.cells) w')):
 Calls prog 332 [ptr p.g,.int .i64 y,.func (.func j) [].toArray cap.toArray].toArray w (hQ p (nB p.abs y f) w):=by
 have J:=G.rows
 simp only[bq.abs,b0,cT] at J
 obtain⟨g,k⟩:=ra (r:=p.s) (u.all _ av) aa;have B:p.s.val= .slice (some ⟨g,0,none⟩) p.s.l.length p.s.c:=by rw[dd.val,k]
 refine bC func332 ntmps332 u ?_;refine aS ?_;refine ao rfl ss rfl (λa b=>sL a p (b.has aQ) y) ?_;refine aq ?_;refine aj (λK=>?_) (λK=>?_);obtain⟨q,rfl⟩ : ∃q:Nat,y=(q:Int):=⟨y.toNat,aa⟩;obtain⟨z,d⟩ : ∃z,p.s.l[q]? = some z:=⟨p.s.l[q]'aa,bG _⟩;have C:=dc d
 refine bF [0,1,2,3,4,5,6,7,8,9,10,11,12,13] 2 [[(14,false,[15,16]),(17,true,[])]] ?_;refine bp ?_;refine aI rfl (λD m=>(bw (q:=q) dM rfl rfl rfl k aa aa aC)) ?_;refine ar ?_;refine aI rfl (λD m=>(a7 sk rfl rfl (λS n=>by subst n;exact m.xz (E:=cn) cu B d 0 _ rfl) aC)) ?_;refine aq ?_;refine Qj (ι:=Value) (first:=[]) (cap:=cap) (c':=λv=>dQ v (f z.cells)) rfl rfl H rfl (λa b=>by obtain⟨dF,c9,n,M⟩:=uW (v:=z.val) (L:=z.cells) ((b.has hL:p.s.cj.pred a) z.aG (dX.2 ⟨z,C,rfl⟩));injection n with N _ O;subst N O;exact I a z _ b C M) (λP _=>?_);refine bV (λ_=>True) (λ_ h=> .inr (h.rem bv.head)) (λ_ h=>aT) ?_;refine aI rfl (λD m=>(bw (q:=q) dM rfl rfl rfl k aa aa aC)) ?_;refine ah ?_;refine iI (e:=283) (sz:=8) (v:=P) aQ (λdF c9 Q _ _ _ _=>?_);subst Q;refine AQ B (o:=q*2) sk rfl rfl ns (by simp[Addr.add_lit]) rfl (by rw[cn.dE];show q*2<p.s.l.length*2;omega) ?_;refine aS ?_;intro R t
 (refine aO.bQ (i:=setRow p q ⟨dF,c9,z.cont,f z.cells⟩) ⟨rfl,x,?_⟩ rfl (Qi d t ae);exact AP p d rfl)
 refine aq ?_;intro R t;exact aO.bQ (i:=p) ⟨rfl,x,by rw[nB,nA,ag (by simp[bq.abs,b0];omega)]⟩ rfl t
theorem p2 (w:World) (p:bq) (b:a8 w (bD p)) (d:cU p.r) (h:c7 p.abs) (y:Int):
 Calls prog 335 [ptr p.g,.int .i64 y].toArray w (hQ p (iL p.abs y false) w):=by
 have j:=h.rows
 simp only[bq.abs,b0,cT] at j
 obtain⟨g,e⟩:=ra (r:=p.s) (b.all _ av) aa;have k:p.s.val= .slice (some ⟨g,0,none⟩) p.s.l.length p.s.c:=by rw[dd.val,e]
 refine bC func335 ntmps335 b ?_;refine aS ?_;refine ao rfl ss rfl (λm n=>sL m p (n.has aQ) y) ?_;refine aq ?_;refine aj (λt=>?_) (λt=>?_);obtain⟨q,rfl⟩ : ∃q:Nat,y=(q:Int):=⟨y.toNat,aa⟩;obtain⟨z,f⟩ : ∃z,p.s.l[q]? = some z:=⟨p.s.l[q]'aa,bG _⟩;refine al ?_;refine bw (q:=q) dM rfl rfl rfl e aa aa ?_;refine ar ?_;refine AQ k (o:=q*2+1) pE rfl rfl ld (by simp[Addr.add_lit]) rfl (by rw[cn.dE];show q*2+1<p.s.l.length*2;omega) ?_;refine aq ?_;intro u a
 (refine aO.bQ (i:=setRow p q ⟨z.A,z.c,false,z.cells⟩) ⟨rfl,d,?_⟩ rfl (Ge f a ae);exact AP p f rfl)
 refine aq ?_;intro u a;exact aO.bQ (i:=p) ⟨rfl,d,by rw[iL,nA,ag (by simp[bq.abs,b0];omega)]⟩ rfl a
theorem Qk (w:World) (p:bq) (b:a8 w (bD p)) (d:cU p.r) (h:c7 p.abs) (y:Int):
 Calls prog 390 [ptr p.g,.int .i64 y].toArray w (hQ p (iL p.abs y true) w):=by
 have j:=h.rows
 simp only[bq.abs,b0,cT] at j
 obtain⟨g,e⟩:=ra (r:=p.s) (b.all _ av) aa;have k:p.s.val= .slice (some ⟨g,0,none⟩) p.s.l.length p.s.c:=by rw[dd.val,e]
 refine bC func390 ntmps390 b ?_;refine aS ?_;refine ao rfl ss rfl (λm n=>sL m p (n.has aQ) y) ?_;refine aq ?_;refine aj (λt=>?_) (λt=>?_);obtain⟨q,rfl⟩ : ∃q:Nat,y=(q:Int):=⟨y.toNat,aa⟩;obtain⟨z,f⟩ : ∃z,p.s.l[q]? = some z:=⟨p.s.l[q]'aa,bG _⟩;refine al ?_;refine bw (q:=q) dM rfl rfl rfl e aa aa ?_;refine ar ?_;refine AQ k (o:=q*2+1) pE rfl rfl ld (by simp[Addr.add_lit]) rfl (by rw[cn.dE];show q*2+1<p.s.l.length*2;omega) ?_;refine aq ?_;intro u a
 (refine aO.bQ (i:=setRow p q ⟨z.A,z.c,true,z.cells⟩) ⟨rfl,d,?_⟩ rfl (Ge f a ae);exact AP p f rfl)
 refine aq ?_;intro u a;exact aO.bQ (i:=p) ⟨rfl,d,by rw[iL,nA,ag (by simp[bq.abs,b0];omega)]⟩ rfl a
end
theorem oM {p:bq} (a:c7 p.abs) {g:bT} (d:g∈p.s.l):g.cells.length≤1000000∧ ∀c∈g.cells,c.more.length≤1000000:=by
 have h:=a.wide g.fo (by simp only[bq.abs,b0];exact dX.2 ⟨g,d,rfl⟩)
 have b:=a.cols
 exact⟨by have:=h.1;simp only at this;omega,λc b=>by have:=h.2 c b;omega⟩
theorem Ql (w:World) (d e f:Nat) (x r:Int) (a:hM) (i: (aE d [.int .i64 x] 3).pred w) (k: (aE e [.int .i32 r] 21).pred w) (l: (aE f a.enc 88).pred w) (F:Nat→Prop) (A:Option Addr) (n c:Nat) (row:List bj) (g:Rd bJ w F A n c row) (s:row.length≤1000000):
 Calls prog 336 ([]++[Value.slice A n c]++[ptr d,ptr e,ptr f]).toArray w (ji (cV (λL=>jG L x r a) row) w):=by
 have t:=g.len
 refine aW func336 ntmps336 ?_;refine aL ?_;refine a7 bM rfl rfl (λh b=>b.bZ i (by (simp;done)) rfl) ?_;refine a7 jz rfl rfl (λh b=>b.bZ k (by (simp;done)) rfl) ?_;refine cy si rfl rfl rfl (λh b j u m=>b.jF (sz:=5) l (by (simp;done)) rfl j u m) ?_;refine gm (ι:=Value) (c':=λv=>dQ v (cV (λL=>jG L x r a) row)) rfl Og rfl (λo p=>Qb o F A n c row (g.ext p.ext av) aa x r a) (λy _=>?_);refine ax ?_;intro z q;exact fd.of _ aT q
theorem Gf (w:World) (p:bq) (e:a8 w (bD p)) (f:cU p.r) (d:c7 p.abs) (y x r:Int) (a:hM):
 Calls prog 241 [ptr p.g,.int .i64 y,.int .i64 x,.int .i32 r,.agg a.enc.toArray].toArray w (hQ p (u0 p.abs y x r a) w):=by
 refine bC func241 ntmps241 e ?_;refine ah ?_;intro l m n;refine ar ?_;intro o q s;refine ar ?_;intro t u v;refine al ?_;refine aY (ι:=bq) ae rfl su rfl (λh b=>sS h p (b.bo ae) f d y (cV (λL=>jG L x r a)) _ [ptr _,ptr _,ptr _] Of (λw' g F c i j=>Ql w' _ _ _ x r a (c.dK (b.has cu) (b.apart ae cu)) (c.dK (b.has bH) (b.apart ae bH)) (c.dK (b.has aQ) (b.apart ae aQ)) F _ _ _ _ j (oM d i).1)) (λz A=>?_);refine aq ?_;intro B k;exact aO.bQ _ bA rfl (k.aw ae)
theorem Qm (w:World) (b d:Nat) (x r:Int) (f: (aE b [.int .i64 x] 3).pred w) (g: (aE d [.int .i32 r] 21).pred w) (F:Nat→Prop) (A:Option Addr) (n c:Nat) (row:List bj) (e:Rd bJ w F A n c row) (m:row.length≤1000000) (h: ∀c∈row,c.more.length≤1000000):
 Calls prog 387 ([]++[Value.slice A n c]++[ptr b,ptr d]).toArray w (ji (cV (λL=>eB L x r) row) w):=by
 have o:=e.len
 refine aW func387 ntmps387 ?_;refine aL ?_;refine a7 bM rfl rfl (λi a=>a.bZ f (by (simp;done)) rfl) ?_;refine a7 jz rfl rfl (λi a=>a.bZ g (by (simp;done)) rfl) ?_;refine gm (ι:=Value) (c':=λv=>dQ v (cV (λL=>eB L x r) row)) rfl OG rfl (λj k=>Qf j F A n c row (e.ext k.ext av) aa h x r) (λp _=>?_);refine ax ?_;intro q l;exact fd.of _ aT l
theorem Qn (w:World) (p:bq) (e:a8 w (bD p)) (f:cU p.r) (b:c7 p.abs) (y x r:Int):
 Calls prog 318 [ptr p.g,.int .i64 y,.int .i64 x,.int .i32 r].toArray w (hQ p (xx p.abs y x r) w):=by
 refine bC func318 ntmps318 e ?_;refine ah ?_;intro k l m;refine ar ?_;intro n o q;refine al ?_;refine aY (ι:=bq) ae rfl su rfl (λh a=>sS h p (a.bo ae) f b y (cV (λL=>eB L x r)) _ [ptr _,ptr _] OF (λw' g F c d i=>Qm w' _ _ x r (c.dK (a.has bH) (a.apart ae bH)) (c.dK (a.has aQ) (a.apart ae aQ)) F _ _ _ _ i (oM b d).1 (oM b d).2)) (λs t=>?_);refine aq ?_;intro u j;exact aO.bQ _ bA rfl (j.aw ae)
theorem Qo (w:World) (d e ce:Nat) (x b an aM:Int) (h: (aE d [.int .i64 x] 3).pred w) (i: (aE e [.int .i64 b] 3).pred w) (k: (aE ce [.int .i64 an,.int .i64 aM] 86).pred w) (F:Nat→Prop) (A:Option Addr) (n c:Nat) (row:List bj) (f:Rd bJ w F A n c row) (q:row.length≤1000000):
 Calls prog 391 ([]++[Value.slice A n c]++[ptr d,ptr e,ptr ce]).toArray w (ji (cV (λL=>insertC L x b an aM) row) w):=by
 have r:=f.len
 refine aW func391 ntmps391 ?_;refine aL ?_;refine a7 bM rfl rfl (λg a=>a.bZ h (by (simp;done)) rfl) ?_;refine a7 bM rfl rfl (λg a=>a.bZ i (by (simp;done)) rfl) ?_;refine cy gz rfl rfl rfl (λg a j u l=>a.jF (sz:=2) k (by (simp;done)) rfl j u l) ?_;refine gm (ι:=Value) (c':=λv=>dQ v (cV (λL=>insertC L x b an aM) row)) rfl OI rfl (λm o=>Qd m F A n c row (f.ext o.ext av) aa x b an aM) (λs _=>?_);refine ax ?_;intro t p;exact fd.of _ aT p
theorem Gg (w:World) (p:bq) (e:a8 w (bD p)) (f:cU p.r) (d:c7 p.abs) (y x b an aM:Int):
 Calls prog 320 [ptr p.g,.int .i64 y,.int .i64 x,.int .i64 b,.agg [.int .i64 an,.int .i64 aM].toArray].toArray w (hQ p (u1 p.abs y x b an aM) w):=by
 refine bC func320 ntmps320 e ?_;refine ah ?_;intro l m n;refine ar ?_;intro o q s;refine ar ?_;intro t u v;refine al ?_;refine aY (ι:=bq) ae rfl su rfl (λh a=>sS h p (a.bo ae) f d y (cV (λL=>insertC L x b an aM)) _ [ptr _,ptr _,ptr _] OH (λw' g F c i j=>Qo w' _ _ _ x b an aM (c.dK (a.has cu) (a.apart ae cu)) (c.dK (a.has bH) (a.apart ae bH)) (c.dK (a.has aQ) (a.apart ae aQ)) F _ _ _ _ j (oM d i).1)) (λz A=>?_);refine aq ?_;intro B k;exact aO.bQ _ bA rfl (k.aw ae)
theorem Qp (w:World) (d e ce:Nat) (x b an aM:Int) (h: (aE d [.int .i64 x] 3).pred w) (i: (aE e [.int .i64 b] 3).pred w) (k: (aE ce [.int .i64 an,.int .i64 aM] 86).pred w) (F:Nat→Prop) (A:Option Addr) (n c:Nat) (row:List bj) (f:Rd bJ w F A n c row) (q:row.length≤1000000):
 Calls prog 406 ([]++[Value.slice A n c]++[ptr d,ptr e,ptr ce]).toArray w (ji (cV (λL=>jZ L x b an aM) row) w):=by
 have r:=f.len
 refine aW func406 ntmps406 ?_;refine aL ?_;refine a7 bM rfl rfl (λg a=>a.bZ h (by (simp;done)) rfl) ?_;refine a7 bM rfl rfl (λg a=>a.bZ i (by (simp;done)) rfl) ?_;refine cy gz rfl rfl rfl (λg a j u l=>a.jF (sz:=2) k (by (simp;done)) rfl j u l) ?_;refine gm (ι:=Value) (c':=λv=>dQ v (cV (λL=>jZ L x b an aM) row)) rfl OR rfl (λm o=>Qe m F A n c row (f.ext o.ext av) aa x b an aM) (λs _=>?_);refine ax ?_;intro t p;exact fd.of _ aT p
theorem Qq (w:World) (p:bq) (e:a8 w (bD p)) (f:cU p.r) (d:c7 p.abs) (y x b an aM:Int):
 Calls prog 349 [ptr p.g,.int .i64 y,.int .i64 x,.int .i64 b,.agg [.int .i64 an,.int .i64 aM].toArray].toArray w (hQ p (AO p.abs y x b an aM) w):=by
 refine bC func349 ntmps349 e ?_;refine ah ?_;intro l m n;refine ar ?_;intro o q s;refine ar ?_;intro t u v;refine al ?_;refine aY (ι:=bq) ae rfl su rfl (λh a=>sS h p (a.bo ae) f d y (cV (λL=>jZ L x b an aM)) _ [ptr _,ptr _,ptr _] OQ (λw' g F c i j=>Qp w' _ _ _ x b an aM (c.dK (a.has cu) (a.apart ae cu)) (c.dK (a.has bH) (a.apart ae bH)) (c.dK (a.has aQ) (a.apart ae aQ)) F _ _ _ _ j (oM d i).1)) (λz A=>?_);refine aq ?_;intro B k;exact aO.bQ _ bA rfl (k.aw ae)
theorem Qr (w:World) (b d ce:Nat) (x z an aM:Int) (g: (aE b [.int .i64 x] 3).pred w) (h: (aE d [.int .i64 z] 3).pred w) (i: (aE ce [.int .i64 an,.int .i64 aM] 86).pred w) (F:Nat→Prop) (A:Option Addr) (n c:Nat) (row:List bj) (e:Rd bJ w F A n c row) (p:row.length≤1000000):
 Calls prog 333 ([]++[Value.slice A n c]++[ptr b,ptr d,ptr ce]).toArray w (ji (cV (λL=>kz L x z an aM) row) w):=by
 have q:=e.len
 refine aW func333 ntmps333 ?_;refine aL ?_;refine a7 bM rfl rfl (λf a=>a.bZ g (by (simp;done)) rfl) ?_;refine a7 bM rfl rfl (λf a=>a.bZ h (by (simp;done)) rfl) ?_;refine cy gz rfl rfl rfl (λf a j u k=>a.jF (sz:=2) i (by (simp;done)) rfl j u k) ?_;refine gm (ι:=Value) (c':=λv=>dQ v (cV (λL=>kz L x z an aM) row)) rfl Oe rfl (λl m=>Qc l F A n c row (e.ext m.ext av) aa x z an aM) (λr _=>?_);refine ax ?_;intro s o;exact fd.of _ aT o
theorem Qs (w:World) (p:bq) (b:a8 w (bD p)) (c:cU p.r) (a:c7 p.abs) (y:Int):
 Calls prog 389 [ptr p.g,.int .i64 y].toArray w (hQ p (xy p.abs y) w):=by
 refine bC func389 ntmps389 b ?_;refine ah ?_;refine aY (ι:=bq) (vs:=[ptr p.g,.int .i64 y,.func (.func 432) [].toArray [].toArray]) ae rfl su rfl (λd e=>sS d p (e.bo ae) c a y (cV mG) _ [] O3 (λw' g F j f h=>Qg w' F _ _ _ _ h (oM a f).1)) (λk l=>?_);refine aq ?_;intro m i;exact aO.bQ _ bA rfl (i.aw ae)
end Go.Proofs.YtoghoobfpcadbaaGreatDoor.Mq
