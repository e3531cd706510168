/- part 23 of the proof -/
import Derived.Test.YtoghoobfpcadbaaGreatDoorQ22
namespace Go.Proofs.YtoghoobfpcadbaaGreatDoor.Mq
open Go Go.RowKit Go.Proofs Tryz
def HT (w:World):Ending→World→Prop:=cf cr.tg (λ_=>True) w
theorem tq (w:World) (v low high:Int) (b:0≤v∧v≤65535) (c:0≤low∧low≤1000) (d:0≤high∧high≤1000):
 Calls prog 441 [.int .i64 v,.int .i64 low,.int .i64 high].toArray w (cf (λi: (Int × Int) × Bool=> .tuple #[.agg [.int .i64 i.1.1,.int .i64 i.1.2].toArray,.bool i.2]) (λ_=>True) w):=by
 refine (cr.SF w v low high b c d).mono ?_;rintro e w' ⟨rfl,a⟩;unfold cr.o1;split
 exact cf.of ((1,v - low),true) aT rfl a;split
 exact cf.of ((1,v - high+8),true) aT rfl a;exact cf.of ((0,0),decide (v=low+9)) aT rfl a
theorem S_ (w:World) (di fn an aM fl v:Int) (e:0≤v∧v≤65535):Calls prog 412 [.agg [.int .i64 di,.int .i64 fn,.int .i64 an,.int .i64 aM,.int .i64 fl].toArray,.int .i64 v].toArray w (HT w):=by
 refine aW func412 ntmps412 ?_;refine ah ?_;intro C D E;refine ar ?_;intro F G H;refine aJ ?_;refine aj (λt=>?_) (λt=>?_);refine aJ ?_;intro d b;exact cf.of ⟨_,_,_,_,_⟩ aT rfl b.ext;refine aJ ?_;refine aj (λaK=>?_) (λaK=>?_);refine ah ?_;refine SR rfl rfl rfl (λI=>?_);refine Hy rfl rfl rfl (λJ=>?_);refine ax ?_;refine bF [0,1,2,5] 3 [[(3,false,[4]),(6,false,[7,8]),(9,true,[])]] ?_;refine al ?_;refine ao rfl Fh rfl (λa c=>cr.Hs a _) ?_;refine ar ?_;refine aI rfl (λf g=>(Br rfl rfl rfl aC)) ?_;refine aq ?_;refine ao rfl Fi rfl (λa c=>cr.Ht a _) ?_;refine ar ?_;refine aI rfl (λf g=>(Bs rfl rfl rfl aC)) ?_;refine bB ?_;refine aY (l0:=[]) aB.nil rfl sw rfl (λa c=>tq a _ _ _ e aZ aZ) (λ⟨⟨u,x⟩,y⟩ _=>?_);refine aS ?_;intro z A B;refine aJ ?_;refine b6 rfl (λh=>?_) (λh=>?_);simp only[b3] at h
 refine aR ?_;refine aY (l0:=[]) aB.nil rfl sw rfl (λa c=>tq a _ _ _ e aZ aZ) (λ⟨⟨i,j⟩,k⟩ _=>?_);refine aS ?_;intro l m n;refine aJ ?_;refine b6 rfl (λo=>?_) (λo=>?_);simp only[b3] at o
 refine b_ ?_;intro d b;exact cf.of ⟨_,_,_,_,_⟩ aT rfl b.ext;simp only[b3] at o
 refine aR ?_;intro d b;exact cf.of ⟨_,_,_,_,_⟩ aT rfl b.ext;simp only[b3] at h
 refine al ?_;refine aY (l0:=[]) aB.nil rfl sw rfl (λa c=>tq a _ _ _ e aZ aZ) (λ⟨⟨i,j⟩,k⟩ _=>?_);refine aS ?_;intro l m n;refine aJ ?_;refine b6 rfl (λp=>?_) (λp=>?_);simp only[b3] at p
 refine b_ ?_;intro d b;exact cf.of ⟨_,_,_,_,_⟩ aT rfl b.ext;simp only[b3] at p
 refine aR ?_;intro d b;exact cf.of ⟨_,_,_,_,_⟩ aT rfl b.ext;refine ah ?_;refine bF [0,1,2,5] 3 [[(3,false,[4]),(6,false,[7,8]),(9,true,[])]] ?_;refine al ?_;refine ao rfl Fh rfl (λa c=>cr.Hs a _) ?_;refine ar ?_;refine aI rfl (λf g=>(Br rfl rfl rfl aC)) ?_;refine aq ?_;refine ao rfl Fi rfl (λa c=>cr.Ht a _) ?_;refine ar ?_;refine aI rfl (λf g=>(Bs rfl rfl rfl aC)) ?_;refine bB ?_;refine aY (l0:=[]) aB.nil rfl sw rfl (λa c=>tq a _ _ _ e aZ aZ) (λ⟨⟨u,x⟩,y⟩ _=>?_);refine aS ?_;intro z A B;refine aJ ?_;refine b6 rfl (λq=>?_) (λq=>?_);simp only[b3] at q
 refine aR ?_;refine aY (l0:=[]) aB.nil rfl sw rfl (λa c=>tq a _ _ _ e aZ aZ) (λ⟨⟨i,j⟩,k⟩ _=>?_);refine aS ?_;intro l m n;refine aJ ?_;refine b6 rfl (λr=>?_) (λr=>?_);simp only[b3] at r
 refine b_ ?_;intro d b;exact cf.of ⟨_,_,_,_,_⟩ aT rfl b.ext;simp only[b3] at r
 refine aR ?_;intro d b;exact cf.of ⟨_,_,_,_,_⟩ aT rfl b.ext;simp only[b3] at q
 refine al ?_;refine aY (l0:=[]) aB.nil rfl sw rfl (λa c=>tq a _ _ _ e aZ aZ) (λ⟨⟨i,j⟩,k⟩ _=>?_);refine aS ?_;intro l m n;refine aJ ?_;refine b6 rfl (λs=>?_) (λs=>?_);simp only[b3] at s
 refine b_ ?_;intro d b;exact cf.of ⟨_,_,_,_,_⟩ aT rfl b.ext;simp only[b3] at s
 refine aR ?_;intro d b;exact cf.of ⟨_,_,_,_,_⟩ aT rfl b.ext
theorem Ta (w:World) (F:Nat→Prop) (A:Option Addr) (n c:Nat) (gs:List (List Int)) (f:cr.ed w F A n c gs) (b:cr.mN gs) (a0:cr.iT):
 Calls prog 350 [cr.tg a0,.slice A n c].toArray w (HT w):=by
 have Zz:=f.len
 have ZA:=b.1
 refine aW func350 ntmps350 ?_;refine ah ?_;intro x ZB ZC;refine ar ?_;intro y ZD ZE;refine aJ ?_;refine b1 (ι:=Nat × cr.iT) (λt=>[(1,.slice A n c),(2,.pointer (some ⟨x,0,none⟩)),(4,.pointer (some ⟨y,0,none⟩)),(5,.int .i64 (t.1 :Int))]) (λt=>af w [] [aE y [.int .i64 0,.int .i64 0,.int .i64 0,.int .i64 0,.int .i64 0] 88,aE x [.int .i64 t.2.di,.int .i64 t.2.fn,.int .i64 t.2.an,.int .i64 t.2.aM,.int .i64 t.2.fl] 88]) (λt=>t.1≤n) (λt=>n - t.1) ?_ ?_;exact λw' E=>⟨(0,a0),bP _,(cw rfl rfl rfl rfl),E⟩
 rintro⟨i,a⟩ hi;obtain⟨di,fn,an,aM,fl⟩:=a;dsimp only at hi ⊢
 refine aJ ?_;refine aj (λG=>?_) (λG=>?_);have B:i<gs.length:=by omega
 obtain⟨g,C⟩ : ∃g,gs[i]? = some g:=⟨gs[i]'B,bG _⟩;obtain⟨b2,X,p,q,j,_,k,l⟩:=f.at_ C;have ai:=l.len
 have ZF:=(b.2 g (dc C)).2.1
 have H:=cr.SD b i
 have o:=cr.SL B
 refine aL ?_;refine ao rfl Aa rfl (λd b=>cr.Bo d _ _ _ _ gs (f.ext b.ext av) ‹cr.mN gs› i aa) ?_;refine cI ?_;refine aj (λI=>?_) (λI=>?_);refine bF [0,1,2,3,4,5,6] 2 [[(7,false,[8,9]),(10,true,[])]] ?_;refine aq ?_;refine aI rfl (λv s=>(Bs rfl rfl rfl aC)) ?_;refine aq ?_;refine aI rfl (λv s=>(bw (q:=i) kr rfl rfl rfl j rfl aa aC)) ?_;refine aI rfl (λv s=>(a7 il rfl rfl (λu J=>by subst J;exact s.ct k (by simp[aA])) aC)) ?_;refine aq ?_;refine ao rfl OS rfl (λd b=>cr.SE d _ _ _ _ g (l.ext b.ext av) aa) ?_;refine ar ?_;refine aI rfl (λv s=>(Br rfl rfl rfl aC)) ?_;refine cI ?_;exact bg (i+1,⟨_,_,_,_,_⟩) bm bm (cw rfl rfl rfl rfl) (λ_ h=>h.aw ae);refine aD ?_;refine aj (λaK=>?_) (λaK=>?_);have D:=aK
 refine aq ?_;refine eA rfl ((b5 D)) ?_;refine aS ?_;intro K L M;refine aJ ?_;refine bw (q:=i) kr rfl rfl rfl j rfl aa ?_;refine a7 il rfl rfl (λu e=>e.ct k av) ?_;refine aS ?_;refine aj (λN=>?_) (λN=>?_);refine ah ?_;refine bw (q:=i) kr rfl rfl rfl j rfl aa ?_;refine a7 il rfl rfl (λu e=>e.ct k av) ?_;refine ao rfl Fb rfl (λd b=>cr.Hu d _ _ _ _ g (l.ext b.ext av) aa aa) ?_;refine bB ?_;refine aX 64 rfl (λO=>?_) (λO=>?_);refine aD ?_;refine aj (λP=>?_) (λP=>?_);refine aR ?_;refine aX 71 rfl (λQ=>?_) (λQ=>?_);refine aD ?_;refine aj (λR=>?_) (λR=>?_);refine bI ?_
 (exfalso;omega)
 refine aJ ?_;exact bg (i+1,⟨_,_,_,_,_⟩) bm bm (cw rfl rfl rfl rfl) (λ_ h=>h.aw ae);refine cI ?_;exact bg (i+1,⟨_,_,_,_,_⟩) bm bm (cw rfl rfl rfl rfl) (λ_ h=>h.aw ae);refine al ?_;refine aX 71 rfl (λS=>?_) (λS=>?_);refine aD ?_;refine aj (λT=>?_) (λT=>?_);refine bI ?_
 (exfalso;omega)
 refine aJ ?_
 (exfalso;omega)
 refine cI ?_
 (exfalso;omega)
 refine bB ?_;refine aX 71 rfl (λU=>?_) (λU=>?_);refine aD ?_;refine aj (λV=>?_) (λV=>?_);refine bI ?_
 (exfalso;omega)
 refine aJ ?_;exact bg (i+1,⟨_,_,_,_,_⟩) bm bm (cw rfl rfl rfl rfl) (λ_ h=>h.aw ae);refine cI ?_;exact bg (i+1,⟨_,_,_,_,_⟩) bm bm (cw rfl rfl rfl rfl) (λ_ h=>h.aw ae);refine aJ ?_;refine ao rfl Fc rfl (λd b=>cr.Hv d _ _ _ _ gs (f.ext b.ext av) ‹cr.mN gs› i aa) ?_;generalize cr.mR gs i=r at o ⊢
 obtain⟨W,m⟩:=r;dsimp only at o ⊢
 refine bB ?_;refine gu (r:=((i+m:Nat):Int)) rfl rfl rfl (by rw[←Int.natCast_add];exact wrap64 aa aa) ?_;refine aL ?_;refine aX 64 rfl (λY=>?_) (λY=>?_);refine aD ?_;refine aj (λZ=>?_) (λZ=>?_);refine aR ?_;refine aX 71 rfl (λZa=>?_) (λZa=>?_);refine aD ?_;refine aj (λZb=>?_) (λZb=>?_);refine bI ?_
 (exfalso;omega)
 refine aJ ?_;exact bg (i+m+1,⟨_,_,_,_,_⟩) bm bm (cw rfl rfl rfl rfl) (λ_ h=>h.aw ae);refine cI ?_;exact bg (i+m+1,⟨_,_,_,_,_⟩) bm bm (cw rfl rfl rfl rfl) (λ_ h=>h.aw ae);refine al ?_;refine aX 71 rfl (λZc=>?_) (λZc=>?_);refine aD ?_;refine aj (λZd=>?_) (λZd=>?_);refine bI ?_
 (exfalso;omega)
 refine aJ ?_
 (exfalso;omega)
 refine cI ?_
 (exfalso;omega)
 refine bB ?_;refine aX 71 rfl (λZe=>?_) (λZe=>?_);refine aD ?_;refine aj (λZf=>?_) (λZf=>?_);refine bI ?_
 (exfalso;omega)
 refine aJ ?_;exact bg (i+m+1,⟨_,_,_,_,_⟩) bm bm (cw rfl rfl rfl rfl) (λ_ h=>h.aw ae);refine cI ?_;exact bg (i+m+1,⟨_,_,_,_,_⟩) bm bm (cw rfl rfl rfl rfl) (λ_ h=>h.aw ae);have D:=aK
 refine ax ?_;refine aj (λZg=>?_) (λZg=>?_);refine aS ?_;intro K L M;refine aJ ?_;refine bw (q:=i) kr rfl rfl rfl j rfl aa ?_;refine a7 il rfl rfl (λu e=>e.ct k av) ?_;refine aS ?_;refine aj (λZh=>?_) (λZh=>?_);refine ah ?_;refine bw (q:=i) kr rfl rfl rfl j rfl aa ?_;refine a7 il rfl rfl (λu e=>e.ct k av) ?_;refine ao rfl Fb rfl (λd b=>cr.Hu d _ _ _ _ g (l.ext b.ext av) aa aa) ?_;refine bB ?_;refine aX 64 rfl (λZi=>?_) (λZi=>?_);refine aD ?_;refine aj (λZj=>?_) (λZj=>?_);refine aR ?_;refine aX 71 rfl (λZk=>?_) (λZk=>?_);refine aD ?_;refine aj (λZl=>?_) (λZl=>?_);refine bI ?_
 (exfalso;omega)
 refine aJ ?_
 (exfalso;omega)
 refine cI ?_
 (exfalso;omega)
 refine al ?_;refine aX 71 rfl (λZm=>?_) (λZm=>?_);refine aD ?_;refine aj (λZn=>?_) (λZn=>?_);refine bI ?_;exact bg (i+1,⟨_,_,_,_,_⟩) bm bm (cw rfl rfl rfl rfl) (λ_ h=>h.aw ae);refine aJ ?_
 (exfalso;omega)
 refine cI ?_;exact bg (i+1,⟨_,_,_,_,_⟩) bm bm (cw rfl rfl rfl rfl) (λ_ h=>h.aw ae);refine bB ?_;refine aX 71 rfl (λZo=>?_) (λZo=>?_);refine aD ?_;refine aj (λZp=>?_) (λZp=>?_);refine bI ?_;exact bg (i+1,⟨_,_,_,_,_⟩) bm bm (cw rfl rfl rfl rfl) (λ_ h=>h.aw ae);refine aJ ?_
 (exfalso;omega)
 refine cI ?_;exact bg (i+1,⟨_,_,_,_,_⟩) bm bm (cw rfl rfl rfl rfl) (λ_ h=>h.aw ae);refine aJ ?_;refine ao rfl Fc rfl (λd b=>cr.Hv d _ _ _ _ gs (f.ext b.ext av) ‹cr.mN gs› i aa) ?_;generalize cr.mR gs i=r at o ⊢
 obtain⟨W,m⟩:=r;dsimp only at o ⊢
 refine bB ?_;refine gu (r:=((i+m:Nat):Int)) rfl rfl rfl (by rw[←Int.natCast_add];exact wrap64 aa aa) ?_;refine aL ?_;refine aX 64 rfl (λZq=>?_) (λZq=>?_);refine aD ?_;refine aj (λZr=>?_) (λZr=>?_);refine aR ?_;refine aX 71 rfl (λZs=>?_) (λZs=>?_);refine aD ?_;refine aj (λZt=>?_) (λZt=>?_);refine bI ?_
 (exfalso;omega)
 refine aJ ?_
 (exfalso;omega)
 refine cI ?_
 (exfalso;omega)
 refine al ?_;refine aX 71 rfl (λZu=>?_) (λZu=>?_);refine aD ?_;refine aj (λZv=>?_) (λZv=>?_);refine bI ?_;exact bg (i+m+1,⟨_,_,_,_,_⟩) bm bm (cw rfl rfl rfl rfl) (λ_ h=>h.aw ae);refine aJ ?_
 (exfalso;omega)
 refine cI ?_;exact bg (i+m+1,⟨_,_,_,_,_⟩) bm bm (cw rfl rfl rfl rfl) (λ_ h=>h.aw ae);refine bB ?_;refine aX 71 rfl (λZw=>?_) (λZw=>?_);refine aD ?_;refine aj (λZx=>?_) (λZx=>?_);refine bI ?_;exact bg (i+m+1,⟨_,_,_,_,_⟩) bm bm (cw rfl rfl rfl rfl) (λ_ h=>h.aw ae);refine aJ ?_
 (exfalso;omega)
 refine cI ?_;exact bg (i+m+1,⟨_,_,_,_,_⟩) bm bm (cw rfl rfl rfl rfl) (λ_ h=>h.aw ae);refine ah ?_;refine aY (l0:=[]) aB.nil rfl OT rfl (λd b=>S_ d di fn an aM fl _ H) (λz _=>?_);refine aR ?_;exact bg (i+1,⟨z.di,z.fn,z.an,z.aM,z.fl⟩) bm bm bR (λ_ h=>h.aw ae);refine bI ?_;intro ZG Zy;exact cf.of ⟨_,_,_,_,_⟩ aT rfl Zy.ext
theorem HU (gs:List (List Int)):cr.mN (cr.fq gs):=by
 refine⟨cr.Bm gs,λg b=>?_⟩;have c:=cr.SA gs g b
 refine⟨c.1,c.2,λx a=>?_⟩;have d: ∀n:Int,-1≤cr.nK n∧cr.nK n≤65535:=λn=>by unfold cr.nK;omega
 have e: ∀g:List Int,∀x∈cr.j8 g,-1≤x∧x≤65535:=λg x a=>by
  unfold cr.j8 at a
  split at a
  simp at a;omega
  obtain⟨y,_,rfl⟩:=dX.1 a;exact d y
 unfold cr.fq at b
 split at b
 simp only[ey] at b
 subst b;simp only[ey] at a
 omega
 obtain⟨y,_,rfl⟩:=dX.1 b;exact e y x a
theorem Tb (w:World) (F:Nat→Prop) (A:Option Addr) (n c:Nat) (gs:List (List Int)) (b:cr.ed w F A n c gs) (p:gs.length≤1000000) (d: ∀g∈gs,g.length≤1000000):
 Calls prog 243 [.slice A n c].toArray w (fd (λi:kL=>i.val) kL.aG (λi=>cr.mN i.gs∧o3 i) w):=by
 refine (cr.Bn w F A n c gs b (by have:=b.len;omega) d).mono ?_;rintro e w' ⟨f,h,c',rfl,j,l⟩;have a:=HU gs
 refine⟨⟨f,h,c',w.heap.size,w'.heap.size,cr.fq gs⟩,⟨a,⟨by have:=a.1;show (cr.fq gs).length≤1000;omega,λg m=>by have:=(a.2 g m).2.1;omega⟩⟩,rfl,j,⟨λ_=>ch _,l.hI⟩,λk o=>(od.1 o).1,x8 _ _ _ _⟩
structure BN (w:World) (S:List Nat) (A:Option Addr) (n c:Nat) (gs:List (List Int)):Prop where
 rd:cr.ed w (λk=>k∉S) A n c gs
 n:gs.length≤1000
 g: ∀g∈gs,g.length≤1000
theorem BN.vx {w:World} {S:List Nat} {A:Option Addr} {n c:Nat} {gs:List (List Int)} (h:BN w S A n c gs): ∀g∈gs,g.length≤1000000:=λg a=>by have:=h.g g a;omega
abbrev BO (s:bl) (di fn an aM fl:Int):bl:={ s with bf:={ s.bf with at_:=⟨di,fn,an,aM,fl⟩ } }
theorem Tc (s:bl) (di fn an aM fl:Int):cZ (eT s) (0+0+0) [.int .i64 di,.int .i64 fn,.int .i64 an,.int .i64 aM,.int .i64 fl]=eT (BO s di fn an aM fl):=by
 simp only[cZ,eT,BO,dA,Nat.reduceAdd,qF,mw]
theorem Td (w:World) (s:bl) (f:a8 w (aP s)) (a:dT s) (A:Option Addr) (n c:Nat) (gs:List (List Int)) (b:BN w (aA (aP s)) A n c gs):
 Calls prog 264 [ptr s.g,.slice A n c].toArray w (d8 0 s (.tuple #[]) w):=by
 refine bC func264 ntmps264 f ?_;refine aD ?_;refine bF [0,1,2,3,4,5,6] 3 [[(7,false,[]),(8,false,[9,10,11]),(12,true,[])]] ?_;refine ax ?_;refine aI rfl (λp i=>(cy (vs:=[.int .i64 s.bf.at_.di,.int .i64 s.bf.at_.fn,.int .i64 s.bf.at_.an,.int .i64 s.bf.at_.aM,.int .i64 s.bf.at_.fl]) si rfl rfl rfl (λq k j u l=>by subst k;exact i.k5 (sz:=5) (xs:=eT s) aQ rfl j u l) aC)) ?_;refine ah ?_;refine gm rfl zU rfl (λd e=>Tb d _ A n c gs (b.rd.ext e.ext (λ_ h=>h)) (by have:=b.n;omega) b.vx) (λz m=>?_);refine bV (λ_=>True) (λ_ h=> .inr (h.rem bv.head)) (λ_ h=>aT) ?_;refine aq ?_;refine aY (l0:=[]) aB.nil rfl Ok rfl (λd e=>Ta d _ _ _ _ z.gs (e.has (c:=z.aG) aQ).2 m.1 ⟨s.bf.at_.di,s.bf.at_.fn,s.bf.at_.an,s.bf.at_.aM,s.bf.at_.fl⟩) (λ⟨di,fn,an,aM,fl⟩ _=>?_);refine bV (λ_=>True) (λ_ h=> .inr ⟨.inr (h.rem bv.head),cz⟩) (λ_ h=>aT) ?_;refine ax ?_;refine eW si rfl rfl (by (rw[Tc];exact bn.tail bn.head)) rfl (Pg rfl rfl rfl rfl rfl) (by exact dY rfl) ?_;refine aS ?_;intro t o;exact aN (BO s di fn an aM fl) ⟨rfl,rfl,rfl,⟨a.r,a.st,a.n⟩,s9 s.abs _⟩ o
theorem Te (w:World) (s o:bl) (J:a8 w (aP s)) (i:dT s) (D:c7 s.ap.abs) (m:o.an.pred w) (E:o.ap.an.pred w) (F:2≤o.ap.cols∧o.ap.cols≤1000) (p:o.g∉aA (aP s)) (G:o.ap.g∉aA (aP s)):
 Calls prog 402 [ptr s.g,ptr o.g].toArray w (d8 0 s (.tuple #[]) w):=by
 have K:nN prog 50 95 s.bf.enc o.bf.enc=true:=by kernel_rfl
 obtain⟨r,H⟩:=Bt 50 _ _ _ K 9950;have I: ∀v,hn prog 95 v= .agg v.toArray:=λv=>by
  have x:jy prog 95=true:=by kernel_rfl
  simp[hn,x]
 rw[I,I] at H
 refine calls (n:=34) func402 rfl ntmps402 rfl ?_;refine cL (H':=af w (aA (aP s)) (aP s)) ?_ (Sub.refl _) J.start;refine k0 (k0 (m_ ?_));refine gl rfl rfl ?_;refine w9 underlying37 rfl rfl rfl ?_;refine gl rfl rfl ?_;refine bY rfl rfl rfl ?_;refine gl rfl rfl ?_;refine bY rfl rfl rfl ?_;refine w9 underlying37 rfl rfl rfl ?_;refine ig rfl rfl rfl rfl ?_;refine r7 (my ?_);refine fD rfl (rfl) ?_;refine y8 (my (k0 (k0 ?_)));refine eq [0,1,2,3,4,5,6,7,8] 0 [[]] (_) mixed ab (λ_ e=>e.drew) (λ_ h=>h) ?_;refine aI rfl (λd c=>(gl rfl rfl aC)) ?_;refine aI rfl (λd c=>(nq rfl rfl aC)) ?_;refine aI rfl (λd c=>(k2 wH rfl rfl aC)) ?_;refine aI rfl (λd c=>(cy (vs:=s.bf.enc) qU rfl rfl rfl (λt k j u q=>by subst k;exact c.k5 (sz:=14) (xs:=eT s) aQ rfl j u q) aC)) ?_;refine aI rfl (λd c=>(gl rfl rfl aC)) ?_;refine aI rfl (λd c=>(nq rfl rfl aC)) ?_;refine aI rfl (λd c=>(k2 wH rfl rfl aC)) ?_;refine aI rfl (λd c=>(cy (vs:=o.bf.enc) qU rfl rfl rfl (λt k j u q=>by subst k;exact c.jF (sz:=14) (xs:=eT o) m p rfl j u q) aC)) ?_;refine aI rfl (λd c=>(SS LR rfl rfl rfl H aC)) ?_;refine pR ?_;refine w3 (my ?_);refine b6 rfl (λA=>?_) (λA=>?_);simp only[pp,Bool.not_eq_false',e1,e2] at A
 refine m_ ?_;refine gl rfl rfl ?_;refine gl rfl rfl ?_;refine nq rfl rfl ?_;refine k2 wH rfl rfl ?_;refine cy (vs:=o.bf.enc) qU rfl rfl rfl (λt x j u q=>x.jF (sz:=14) (xs:=eT o) m p rfl j u q) ?_;refine nq rfl rfl ?_;refine k2 wH rfl rfl ?_;refine eW qU rfl rfl (by rw[Hk];exact bn.head) rfl (aH.cons rfl (aH.cons rfl (aH.cons rfl (aH.cons rfl (gb rfl rfl rfl rfl rfl rfl rfl rfl rfl rfl))))) (by exact dY rfl) ?_;refine r7 (my ?_);refine eq [0,1,2,3,4,5] 2 [[(6,false,[]),(7,true,[])]] (_) mixed ab (λ_ e=>e.drew) (λ_ h=>h) ?_;refine aI rfl (λd c=>(gl rfl rfl aC)) ?_;refine aI rfl (λd c=>(gl rfl rfl aC)) ?_;refine aI rfl (λd c=>(nq rfl rfl aC)) ?_;refine aI rfl (λd c=>(k2 DX rfl rfl aC)) ?_;refine aI rfl (λd c=>(a7 bM rfl rfl (λt k=>by subst k;exact c.bZ (xs:=eT o) m p rfl) aC)) ?_;refine aI rfl (λd c=>(gl rfl rfl aC)) ?_;refine pR ?_;refine sx [_] rfl (qB.2 ⟨?_,by simp⟩);refine ao rfl jb rfl (λl f=>jl l o (f.dK m (by simpa [aE] using p)) (f.dK E (by simpa [aE] using G)) F) ?_;refine bV (λ_=>True) (λ_ h=> .inr h) (λ_ h=>aT) ?_;refine pR ?_;refine sx [_] rfl (qB.2 ⟨?_,by simp⟩);refine aY (l0:=aP { s with bf:=o.bf }) (aB.cons bi (aB.cons bi (aB.cons bi (aB.cons bi (aB.cons bi (aB.cons bi (aB.cons bi aB.nil))))))) rfl EK rfl (λl f=>xV l { s with bf:=o.bf } (f.bo (aB.cons bi (aB.cons bi (aB.cons bi (aB.cons bi (aB.cons bi (aB.cons bi (aB.cons bi aB.nil)))))))) ⟨i.r,i.st,i.n⟩ D o.y _) (λB C=>?_);refine bV (λ_=>True) (λ_ _=> .inl rfl) (λ_ h=>aT) ?_;refine pR ?_;refine w3 ?_;refine y9 results402 (λL e=>?_);exact aO.bQ B ((gi.trans (a:=0) (b:=0) (z:={ s with bf:=o.bf }) ⟨rfl,rfl,rfl,⟨i.r,i.st,i.n⟩,s9 s.abs _⟩ (C.gX (xU _ _ _)))) rfl (e.aw (aB.cons bi (aB.cons bi (aB.cons bi (aB.cons bi (aB.cons bi (aB.cons bi (aB.cons bi aB.nil))))))));simp only[pp,Bool.not_eq_false',e1,e2] at A
 refine y8 (my ?_);refine eq [0,1,2,3,4,5] 2 [[(6,false,[]),(7,true,[])]] (_) mixed ab (λ_ e=>e.drew) (λ_ h=>h) ?_;refine aI rfl (λd c=>(gl rfl rfl aC)) ?_;refine aI rfl (λd c=>(gl rfl rfl aC)) ?_;refine aI rfl (λd c=>(nq rfl rfl aC)) ?_;refine aI rfl (λd c=>(k2 DX rfl rfl aC)) ?_;refine aI rfl (λd c=>(a7 bM rfl rfl (λt k=>by subst k;exact c.bZ (xs:=eT o) m p rfl) aC)) ?_;refine aI rfl (λd c=>(gl rfl rfl aC)) ?_;refine pR ?_;refine sx [_] rfl (qB.2 ⟨?_,by simp⟩);refine ao rfl jb rfl (λl f=>jl l o (f.dK m (by simpa [aE] using p)) (f.dK E (by simpa [aE] using G)) F) ?_;refine bV (λ_=>True) (λ_ h=> .inr h) (λ_ h=>aT) ?_;refine pR ?_;refine sx [_] rfl (qB.2 ⟨?_,by simp⟩);refine aY (l0:=aP s) (aB.cons bi (aB.cons bi (aB.cons bi (aB.cons bi (aB.cons bi (aB.cons bi (aB.cons bi aB.nil))))))) rfl EK rfl (λl f=>xV l s (f.bo (aB.cons bi (aB.cons bi (aB.cons bi (aB.cons bi (aB.cons bi (aB.cons bi (aB.cons bi aB.nil)))))))) i D o.y _) (λB C=>?_);refine bV (λ_=>True) (λ_ _=> .inl rfl) (λ_ h=>aT) ?_;refine pR ?_;refine w3 ?_;refine y9 results402 (λL e=>?_);exact aO.bQ B (C.gX (xU _ _ _)) rfl (e.aw (aB.cons bi (aB.cons bi (aB.cons bi (aB.cons bi (aB.cons bi (aB.cons bi (aB.cons bi aB.nil))))))))
theorem af.ye {b w:World} {S:List Nat} {cs:List Chunk} {l:List bT} {g:bT} (h:af b S (aU (l.map bT.aG)::g.aG::cs) w):af b S (aU ((l++[g]).map bT.aG)::cs) w:=by
 have a:af b S (aU [g.aG]::aU (l.map bT.aG)::cs) w:=(h.perm (List.Perm.swap _ _ _)).close (l:=[g.aG]) ae
 rw[gf];exact (a.perm (List.Perm.swap _ _ _)).BE
theorem af.tr {b w:World} {S:List Nat} {cs:List Chunk} (h:af b S cs w):af b S (aU ([].map bT.aG)::cs) w:=h.na (λc a=>by simp at a) rfl
theorem Tf (w:World) (n:Int) (f:0≤n∧n≤100000):Calls prog 147 [.int .i64 n].toArray w
 (aO (λg:Nat=> .tuple #[ptr g,.int .i64 0]) [] (λg=>cd ⟨g,⟨none,0,[]⟩,n,0,0,0⟩) (λ_=>True) w):=by
 refine aW func147 ntmps147 ?_;refine bB ?_;refine aX 6 rfl (λa=>?_) (λa=>?_);have d:=a1 a
 refine cI ?_;intro c b
 (exfalso;omega)
 have d:=bc a
 refine aD ?_;refine aj (λaK=>?_) (λaK=>?_);refine aJ ?_;intro c b
 (exfalso;omega)
 refine aD ?_;intro e h i;refine al ?_;intro c b;exact aO.bQ e aT rfl (((b.eO 144 cn).tr).aw ae)
theorem yf (w:World) (r c:Int):Calls prog 148 [.int .i64 r,.int .i64 c].toArray w (Pure (.bool (decide ((1≤r∧r≤1000)∧2≤c∧c≤1000))) w):=by
 refine aW func148 ntmps148 ?_;refine aR ?_;refine aX 7 rfl (λb=>?_) (λb=>?_);have f:=a1 b
 refine al ?_;refine aX 11 rfl (λaK=>?_) (λaK=>?_);have g:=a1 aK
 refine al ?_;refine aX 15 rfl (λd=>?_) (λd=>?_);have h:=a1 d
 refine aR ?_;intro e a;exact⟨by rw[Ending.returned.injEq,Value.bool.injEq];symm;(rw[hf];omega),a.ext⟩;have h:=bc d
 refine aL ?_;intro e a;exact⟨by rw[Ending.returned.injEq,Value.bool.injEq];symm;(rw[e1];omega),a.ext⟩;have g:=bc aK
 refine bB ?_;intro e a;exact⟨by rw[Ending.returned.injEq,Value.bool.injEq];symm;(rw[e1];omega),a.ext⟩;have f:=bc b
 refine dx ?_;intro e a;exact⟨by rw[Ending.returned.injEq,Value.bool.injEq];symm;(rw[e1];omega),a.ext⟩
theorem Tg (w:World) (p:bq) (a:a8 w (bD p)):Calls prog 184 [ptr p.g].toArray w
 (aO (λ_:Unit=>p.be.val) (bD p) (λ_=>bD { p with be:=⟨none,0,[]⟩ }++[p.be.au]) (λ_=>True) w):=by
 refine bC func184 ntmps184 a ?_;refine Pq ?_;intro c b;exact aO.bQ () aT rfl ((b.eO 167 jX).aw ae)
theorem Th (w:World) (r:dj) (a:r.an.pred w) (i k:Int) (hi:0≤i∧i≤1000000) (b:0≤r.first∧r.first≤1000000) (c: (r.s.l.length:Int)≤1000000) (d:ev r i=k):Calls prog 94 [ptr r.g,.int .i64 i].toArray w (Pure (.int .i64 k) w):=by
 subst d;exact xq w r a i hi b c
theorem BP {w:World} {l:List bT} {g:bT} (h: (aU (l.map bT.aG)).pred w) (a:g∈l):Rd bJ w (λ_=>True) g.A g.cells.length g.c g.cells:=
 gV (e:=283) (E:=bJ) (h g.aG (dX.2 ⟨g,a,rfl⟩))
theorem Ti (w:World) (r:dj) (p:a8 w (cd r)) (a:cU r) (y: ∀x∈r.rows,x.1.length≤1000000):Calls prog 56 [ptr r.g].toArray w
 (aO (λz:dd=>z.val) (cd r) (λz=>cd r++[z.au,z.cj]) (λz=>b0 z.l=r.rows) w):=by
 have A:=a.n
 have K:=a.len
 have M:=a.room
 have N:=a.first
 refine calls (n:=25) func56 rfl ntmps56 rfl ?_;refine cL (H':=af w (aA (cd r)) (cd r++[dd.au ⟨none,0,[]⟩,dd.cj ⟨none,0,[]⟩])) ?_ (Sub.refl _) (λx o=>(((p.start x o).eO 144 cn).tr).aw ae);refine b_ ?_;refine ao rfl zG rfl (λb d=>AF b r (d.has aQ)) ?_;refine aS ?_;refine b1 (ι:=Nat × dd) (λi=>[(0,ptr r.g),(3,i.2.val),(6,.int .i64 r.n),(7,.int .i64 (i.1 :Int))]) (λi=>af w (aA (cd r)) (cd r++[i.2.au,i.2.cj])) (λi=>(i.1 :Int)≤r.n∧b0 i.2.l=r.rows.take i.1) (λi=>r.n.toNat - i.1) ?_ ?_;exact λw' B=>⟨(0,⟨none,0,[]⟩),⟨A.1,rfl⟩,(cw rfl rfl rfl rfl),B⟩
 rintro⟨i,z⟩ ⟨hi,f⟩;dsimp only at hi f ⊢
 have O:z.l.length=i:=by
  have:=aV List.length f
  rw[cT,dv,lk] at this
  omega
 refine al ?_;refine aj (λC=>?_) (λC=>?_);have P:=p4 a (i:=i) aa aa
 obtain⟨g,e⟩ : ∃g,r.s.l[(ev r i).toNat]? = some g:=⟨r.s.l[(ev r i).toNat]'aa,bG _⟩;obtain⟨k,m⟩ : ∃k:Nat,ev r i=k:=⟨(ev r i).toNat,aa⟩;rw[m,hc] at e
 obtain⟨gs,t⟩:=ra (p.all r.s.au av) aa;have D:=dc e
 have Q:g.cells.length≤1000000:=y g.fo (dc (i:=i) (by rw[p6,ay aa,p5,m,hc,e];rfl))
 refine aR ?_;refine bF [0,1,2,3,4,5,6] 4 [[(7,false,[8,9]),(10,false,[]),(11,false,[]),(12,true,[13])]] ?_;refine aJ ?_;refine ao rfl wN rfl (λb d=>Th b r (d.has aQ) (i:Int) (k:Int) aa aa aa m) ?_;refine bV (_) (λ_ h=> .inr h) (λ_ h=>h) ?_;refine aI rfl (λF v=>(bw (q:=k) dM rfl rfl rfl t rfl aa aC)) ?_;refine aI rfl (λF v=>(cy (vs:=g.enc) gP rfl rfl rfl (λR G j u H=>by subst G;exact v.fO (E:=cn) (c:=r.s.c) (L:=r.s.l) bH t e j u H) aC)) ?_;refine aq ?_;refine gm rfl Ep rfl (λb d=>Gh b _ _ _ _ g.cells g.cont (BP (d.has (c:=r.s.cj) cu) D) aa) (λx o=>?_);refine bV (λ_=>True) (λ_ h=> .inr ⟨.inr (h.rem bv.head),(h.rem bv.head)⟩) (λ_ h=>aT) ?_;refine aq ?_;refine dG (E:=cn) _ dM rfl rfl rfl rfl rfl (λS T U=>?_);refine bV (λ_=>True) (λ_ h=> .inr ⟨.inr ⟨.inr ((h.rem bv.head).rem bv.head),((h.rem bv.head).rem bv.head)⟩,cz⟩) (λ_ h=>aT) ?_;refine aq ?_;refine ew (E:=cn) dM rfl rfl rfl bi (λ_ _=>jf) b7 b7 (λV W=>?_);refine aR ?_;have I:r.rows[i]? = some x.fo:=by rw[p6,ay aa,p5,m,hc,e,o];rfl
 refine bg (i+1,⟨_,_,z.l++[x]⟩) ⟨by dsimp only;omega,?_⟩ bm (cw rfl rfl rfl rfl) (λ_ h=>(af.ye (l:=z.l) (g:=x) (h.aw (l:=[z.cj,x.aG,r.an,r.s.au,r.s.cj,au 144 cn _ _ (z.l++[x])]) ae)).aw ae);show (z.l++[x]).map bT.fo=r.rows.take (i+1)
 rw[gf,gk,I,←f];rfl
 refine bI ?_;intro X J;exact aN z (by rw[f,ez (by rw[lk];omega)]) J
def nQ (cols:Int):bS:=(List.replicate (lj cols) (jY 0 0),false)
theorem Tj {cols:Int} (h:2≤cols∧cols≤1000):nQ cols=q_ cols 0 0:=by
 unfold nQ q_ lj;rw[show (max 0 (min cols 1000)).toNat=cols.toNat by omega]
theorem BQ (w:World) (p:bq) (d:a8 w (bD p)) (n:Int) (u:n≤1000) (ai:p.s.l.length≤1000):Calls prog 149 [ptr p.g,.int .i64 n].toArray w
 (aO (λ_:dd=> .tuple #[]) (bD p) (λz=>bD { p with s:=z }) (λz=>b0 z.l=b0 p.s.l++List.replicate (n.toNat - p.s.l.length) (nQ p.cols)) w):=by
 refine bC func149 ntmps149 d ?_;refine ar ?_;refine b1 (ι:=Nat × dd) (λi=>[(0,ptr p.g),(1,.int .i64 n)]) (λi=>af w (aA (bD p)) (bD { p with s:=i.2 })) (λi=>b0 i.2.l=b0 p.s.l++List.replicate i.1 (nQ p.cols)∧i.2.l.length=p.s.l.length+i.1∧i.1≤n.toNat - p.s.l.length) (λi=>n.toNat - i.2.l.length) ?_ ?_;exact λw' e=>⟨(0,p.s),⟨by simp,rfl,bP _⟩,(iJ rfl rfl),e⟩
 rintro⟨i,z⟩ ⟨b,f,j⟩;dsimp only at b f j ⊢
 refine bB ?_;refine aj (λa=>?_) (λa=>?_);refine ah ?_;refine eq [0,1,2,3,4,5,6] 4 [[(7,false,[]),(8,false,[]),(9,false,[10,11]),(12,true,[])]] (_) mixed ab (λ_ c=>c.drew) (λ_ h=>(show (bq.an { p with s:=z }).pred _ from h.has aQ)) ?_;refine aS ?_;refine aI rfl (λv k=>(a7 wF rfl rfl (λy m=>by subst m;exact BL k rfl) aC)) ?_;refine aS ?_;refine gm rfl zT rfl (λo q=>AR o { p with s:=z } (q.has aQ) 0 0) (λx t=>?_);refine bV (λ_=>True) (λ_ h=> .inr (h.has bH)) (λ_ h=>aT) ?_;refine aq ?_;refine dG (E:=cn) _ dM rfl rfl rfl rfl rfl (λA B C=>?_);refine bV (λ_=>True) (λ_ h=> .inr ⟨.inr (h.has cu),cz⟩) (λ_ h=>aT) ?_;refine aq ?_;refine ew (E:=cn) dM rfl rfl rfl bi (λ_ _=>ns) b7 b7 (λD F=>?_);refine bV (λ_=>True) (λ_ h=> .inr ⟨.inr ⟨.inr (h.has bH),cz⟩,cz⟩) (λ_ h=>aT) ?_;refine aJ ?_;refine bg (i+1,⟨_,_,z.l++[x]⟩) ⟨?_,by simp;omega,by dsimp only at a ⊢;omega⟩ (by simp only[b8,eK,lH];dsimp only at a;omega) (iJ rfl rfl) (λ_ h=>(af.ye (l:=z.l) (g:=x) (h.aw (l:=[z.cj,x.aG,bq.an { p with s:=⟨_,_,z.l++[x]⟩ },aU (cd p.r),au 144 cn _ _ (z.l++[x]),p.be.au]) ae)).aw ae);show (z.l++[x]).map bT.fo=_
 rw[gf,List.replicate_succ',←fh,←b];show _++[x.fo]=_
 rw[t];rfl
 refine ax ?_;intro G c;exact aO.bQ z (by rw[b,show i=n.toNat - p.s.l.length by dsimp only at a;omega]) rfl c
theorem BR (w:World) (p:bq) (q:a8 w (bD p)) (a:cU p.r) (t: ∀x∈p.r.rows,x.1.length≤1000000) (v: ∀x∈b0 p.s.l,x.1.length≤1000000) (I:p.s.l.length≤1000):Calls prog 27 [ptr p.g].toArray w
 (aO (λz:dd=>z.val) (bD p) (λz=>bD p++[z.au,z.cj]) (λz=>b0 z.l=p.r.rows++b0 p.s.l) w):=by
 have J:=a.n
 have K:=a.len
 have L:=a.room
 refine bC func27 ntmps27 q ?_;refine hs ?_;refine kH (l0:=cd p.r) (cs1:=λ_=>_) (λ_=>er) rfl Mu rfl (λd e=>Ti d p.r (e.kG bH) a t) (λz k=>?_);refine ax ?_;refine cL (H':=af w (aA (bD p)) (bD p++[z.au,z.cj])) ?_ (Sub.refl _) (λx f=>(((f.open (l:=cd p.r++[z.au,z.cj]) cB).close (l:=cd p.r) ae).aw ae));have M:z.l.length=p.r.n.toNat:=by
  have:=aV List.length k
  rwa [cT,lk] at this
 refine aR ?_;refine b1 (ι:=Nat × dd) (λi=>[(3,i.2.val),(16,p.s.val),(17,.int .i64 (p.s.l.length:Int)),(18,.int .i64 (i.1 :Int))]) (λi=>af w (aA (bD p)) (bD p++[i.2.au,i.2.cj])) (λi=>i.1≤p.s.l.length∧b0 i.2.l=p.r.rows++(b0 p.s.l).take i.1) (λi=>p.s.l.length - i.1) ?_ ?_;exact λw' y=>⟨(0,z),⟨bP _,by simpa using k⟩,(cw rfl rfl rfl rfl),y⟩
 rintro⟨i,u⟩ ⟨hi,b⟩;dsimp only at hi b ⊢
 have N:u.l.length=p.r.n.toNat+i:=by
  have:=aV List.length b
  simp only[cT,b8,dv,lk] at this
  omega
 refine al ?_;refine aj (λB=>?_) (λB=>?_);obtain⟨g,m⟩ : ∃g,p.s.l[i]? = some g:=⟨p.s.l[i]'aa,bG _⟩;have o:=dc m
 have O:g.cells.length≤1000000:=v g.fo (dX.2 ⟨g,o,rfl⟩)
 refine al ?_;refine jm (E:=cn) cu dM rfl rfl rfl bb aa (λP C=>?_);refine cy gP rfl rfl rfl (λQ D j u F=>D.fO (E:=cn) cu C bA j u F) ?_;refine ar ?_;intro R S T;refine al ?_;refine gm rfl Mv rfl (λd e=>Qw d _ g.A g.cells.length g.c g.cells g.cont (BP (e.has (c:=p.s.cj) hp) o) aa) (λx f=>?_);refine dG (E:=cn) _ dM rfl rfl rfl rfl rfl (λU V W=>?_);refine ew (E:=cn) dM rfl rfl rfl bi (λ_ _=>FG) b7 b7 (λX Y=>?_);refine aL ?_;have G: (b0 p.s.l)[i]? = some x.fo:=by rw[eJ,m,f];rfl
 refine bg (i+1,⟨_,_,u.l++[x]⟩) ⟨by dsimp only;omega,?_⟩ bm (cw rfl rfl rfl rfl) (λ_ h=>(af.ye (l:=u.l) (g:=x) (h.aw (l:=[u.cj,x.aG,p.an,aU (cd p.r),p.s.au,p.s.cj,p.be.au,au 144 cn _ _ (u.l++[x])]) ae)).aw ae);show (u.l++[x]).map bT.fo=p.r.rows++(b0 p.s.l).take (i+1)
 rw[gf,gk,G,←fh,←b];rfl
 refine bI ?_;intro Z H;exact aN u (by rw[b,ez (by simp;omega)]) H
def o6 (rows cols lines:Int):b4:=⟨[],lines,List.replicate rows.toNat (q_ cols 0 0),cols,[]⟩
theorem Tk {rows cols lines:Int} (e:1≤rows∧rows≤1000) (a:2≤cols∧cols≤1000) (f:0≤lines∧lines≤100000):c7 (o6 rows cols lines):=by
 refine⟨a,by simp only[o6,hd];omega,λr b=>?_,by simp[o6],by simp only[o6,lH];omega⟩;have:=m7 b
 subst this;refine⟨by simp only[q_,hd,o6];omega,λc d=>?_⟩;have:=m7 d
 subst this;simp[jY]
abbrev BS (g:Nat) (n:Int):dj:=⟨g,⟨none,0,[]⟩,n,0,0,0⟩
abbrev yg (g h:Nat) (n cols:Int) (z:dd):bq:=⟨g,BS h n,z,cols,⟨none,0,[]⟩⟩
theorem Tl {g:Nat} {n:Int} (a:0≤n∧n≤100000):cU (BS g n):=⟨by simp;omega,a,by simp,by simp,by simp⟩
theorem Tm (w:World) (rows cols lines:Int) (k:1≤rows∧rows≤1000) (a:2≤cols∧cols≤1000) (e:0≤lines∧lines≤100000):Calls prog 98 [.int .i64 rows,.int .i64 cols,.int .i64 lines].toArray w
 (aO (λz:bq=> .tuple #[ptr z.g,.int .i64 0]) [] bD (λz=>cU z.r∧z.abs=o6 rows cols lines) w):=by
 refine aW func98 ntmps98 ?_;refine aJ ?_;refine aY (l0:=[]) aB.nil rfl Na rfl (λb _=>Tf b lines e) (λh _=>?_);refine bB ?_;refine ao rfl wR rfl (λb a=>yf b _ _) ?_;refine aq ?_;refine aX 20 rfl (λf=>?_) (λf=>?_);refine cI ?_;intro i d;exact absurd f (by rw[b5 (show (1≤rows∧rows≤1000)∧2≤cols∧cols≤1000 from ⟨k,a⟩)];decide);refine aD ?_;refine aj (λaK=>?_) (λaK=>?_);refine aJ ?_;intro i d;exact absurd rfl aK;refine aL ?_;intro c n o;refine aS ?_;refine cL (H':=af w [] (bD (yg c h lines cols ⟨none,0,[]⟩))) ?_ (Sub.refl _) (λx m=>(((((m.close (l:=cd (BS h lines)) ae).eO 144 cn).tr).eO 167 jX).aw ae));refine ah ?_;refine aY (l0:=bD (yg c h lines cols ⟨none,0,[]⟩)) ae rfl zN rfl (λb a=>BQ b (yg c h lines cols ⟨none,0,[]⟩) (a.bo ae) rows aa av) (λz j=>?_);refine bp ?_;intro i d;exact aN (yg c h lines cols z) ⟨Tl e,by rw[Tj a] at j;show b4.mk [] lines (b0 z.l) cols []=_;rw[j];rfl⟩ d
def l8 (rows cols lines:Int):bd:=⟨lr,o6 rows cols lines,0,0,0,rows - 1,rk,0,0,false,0,cO.jj [] cols.toNat⟩
theorem Tn {rows cols lines:Int} (a:1≤rows∧rows≤1000) (b:2≤cols∧cols≤1000) (c:0≤lines∧lines≤100000):d4 (l8 rows cols lines):=by
 have d: ((l8 rows cols lines).bE.cJ.length:Int)=rows:=by simp only[l8,o6,hd];omega
 have e: (l8 rows cols lines).bE.cols=cols:=rfl
 refine⟨Tk a b c,?_,?_,?_⟩;show 0≤(0 :Int)∧(0 :Int)<((l8 rows cols lines).bE.cJ.length:Int)
 omega
 show 0≤(0 :Int)∧(0 :Int)≤cols
 omega
 show 0≤(0 :Int)∧(0 :Int)≤rows - 1∧rows - 1<((l8 rows cols lines).bE.cJ.length:Int)
 omega
abbrev HV (g:Nat) (p:bq) (a n:Nat) (i:cO.e5) (rows:Int):bl:=⟨g,lr,p,⟨a,cO.jj [] n,i⟩,0,0,0,rows - 1,rk,0,0,false,0⟩
theorem qa (n:Nat): (cO.jj [] n).length=n:=by simp[cO.jj]
theorem To (w:World) (cols:Int) (a:2≤cols∧cols≤1000):Calls prog 99 [.int .i64 cols].toArray w (fd (λs:Nat × cO.e5=>Value.tuple #[ptr s.1,.int .i64 0]) (λs=>cO.eC s.1 (cO.jj [] cols.toNat).length s.2) (λs=>cO.hT (cO.jj [] cols.toNat) s.2) w):=by
 have h:=cO.vb w cols.toNat aa
 rw[show ((cols.toNat:Nat):Int)=cols by omega] at h
 rw[qa];exact h
set_option maxHeartbeats 1000000 in
theorem HW (w:World) (rows cols lines:Int) (e:1≤rows∧rows≤1000) (b:2≤cols∧cols≤1000) (f:0≤lines∧lines≤100000):Calls prog 59 [.int .i64 rows,.int .i64 cols,.int .i64 lines].toArray w
 (aO (λz:bl=> .tuple #[ptr z.g,.int .i64 0]) [] aP (λz=>dT z∧z.abs=l8 rows cols lines) w):=by
 refine aW func59 ntmps59 ?_;refine bp ?_;refine aY (l0:=[]) aB.nil rfl MM rfl (λa _=>Tm a rows cols lines e b f) (λp ai=>?_);refine b_ ?_;refine aj (λc=>?_) (λc=>?_);refine aR ?_;intro h d;exact absurd rfl c;refine ax ?_;refine gm rfl MN rfl (λa _=>To a cols b) (λs i=>?_);refine aJ ?_;refine ao rfl zH rfl (λa b=>Bc a) ?_;refine aS ?_;refine ko (out:=eT (HV 0 p s.1 cols.toNat s.2 rows)) LT rfl rfl (by simp[hF,putAt,cZ,Value.cells,lr,vk,rk,gE.enc,fV.enc]) ?_;refine ar ?_;intro j l m;refine al ?_;intro h d;exact aN (HV j p s.1 cols.toNat s.2 rows) ⟨⟨ai.1,i,by have k:p.cols=cols:=aV b4.cols ai.2;show ((cO.jj [] cols.toNat).length:Int)=p.cols;rw[qa,k];omega⟩,by simp only[bl.abs,ai.2];rfl⟩ d
end Go.Proofs.YtoghoobfpcadbaaGreatDoor.Mq
