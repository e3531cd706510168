/- part 23 of the proof -/
import Derived.Test.YtkeokgcdnfjaaaaGreatDoorQ22
namespace Go.Proofs.YtkeokgcdnfjaaaaGreatDoor.Mq
open Go Go.RowKit Go.Proofs Tryz
def HM (w:World):Ending→World→Prop:=ca cr.s8 (λ_=>True) w
theorem tf (w:World) (v low high:Int) (b:0≤v∧v≤65535) (c:0≤low∧low≤1000) (d:0≤high∧high≤1000):
 Calls prog 425 [.int .i64 v,.int .i64 low,.int .i64 high].toArray w (ca (λi: (Int × Int) × Bool=> .tuple #[.agg [.int .i64 i.1.1,.int .i64 i.1.2].toArray,.bool i.2]) (λ_=>True) w):=by
 refine (cr.So w v low high b c d).mono ?_;rintro e w' ⟨rfl,a⟩;unfold cr.oW;split
 exact ca.of ((1,v - low),true) aU rfl a;split
 exact ca.of ((1,v - high+8),true) aU rfl a;exact ca.of ((0,0),decide (v=low+9)) aU rfl a
theorem ST (w:World) (dg fn an aM fl v:Int) (e:0≤v∧v≤65535):Calls prog 396 [.agg [.int .i64 dg,.int .i64 fn,.int .i64 an,.int .i64 aM,.int .i64 fl].toArray,.int .i64 v].toArray w (HM w):=by
 refine aW func396 ntmps396 ?_;refine ah ?_;intro C D E;refine aq ?_;intro F G H;refine aJ ?_;refine aj (λt=>?_) (λt=>?_);refine aJ ?_;intro d b;exact ca.of ⟨_,_,_,_,_⟩ aU rfl b.ext;refine aJ ?_;refine aj (λaH=>?_) (λaH=>?_);refine ah ?_;refine SA rfl rfl rfl (λI=>?_);refine Hr rfl rfl rfl (λJ=>?_);refine ay ?_;refine bG [0,1,2,5] 3 [[(3,false,[4]),(6,false,[7,8]),(9,true,[])]] ?_;refine al ?_;refine ao rfl E8 rfl (λa c=>cr.Hl a _) ?_;refine aq ?_;refine aL rfl (λf g=>(Bj rfl rfl rfl aG)) ?_;refine ar ?_;refine ao rfl E9 rfl (λa c=>cr.Hm a _) ?_;refine aq ?_;refine aL rfl (λf g=>(Bk rfl rfl rfl aG)) ?_;refine bw ?_;refine aZ (l0:=[]) aA.nil rfl sl rfl (λa c=>tf a _ _ _ e a1 a1) (λ⟨⟨u,x⟩,y⟩ _=>?_);refine aS ?_;intro z A B;refine aJ ?_;refine b2 rfl (λh=>?_) (λh=>?_);simp only[bU] at h
 refine aR ?_;refine aZ (l0:=[]) aA.nil rfl sl rfl (λa c=>tf a _ _ _ e a1 a1) (λ⟨⟨i,j⟩,k⟩ _=>?_);refine aS ?_;intro l m n;refine aJ ?_;refine b2 rfl (λo=>?_) (λo=>?_);simp only[bU] at o
 refine b5 ?_;intro d b;exact ca.of ⟨_,_,_,_,_⟩ aU rfl b.ext;simp only[bU] at o
 refine aR ?_;intro d b;exact ca.of ⟨_,_,_,_,_⟩ aU rfl b.ext;simp only[bU] at h
 refine al ?_;refine aZ (l0:=[]) aA.nil rfl sl rfl (λa c=>tf a _ _ _ e a1 a1) (λ⟨⟨i,j⟩,k⟩ _=>?_);refine aS ?_;intro l m n;refine aJ ?_;refine b2 rfl (λp=>?_) (λp=>?_);simp only[bU] at p
 refine b5 ?_;intro d b;exact ca.of ⟨_,_,_,_,_⟩ aU rfl b.ext;simp only[bU] at p
 refine aR ?_;intro d b;exact ca.of ⟨_,_,_,_,_⟩ aU rfl b.ext;refine ah ?_;refine bG [0,1,2,5] 3 [[(3,false,[4]),(6,false,[7,8]),(9,true,[])]] ?_;refine al ?_;refine ao rfl E8 rfl (λa c=>cr.Hl a _) ?_;refine aq ?_;refine aL rfl (λf g=>(Bj rfl rfl rfl aG)) ?_;refine ar ?_;refine ao rfl E9 rfl (λa c=>cr.Hm a _) ?_;refine aq ?_;refine aL rfl (λf g=>(Bk rfl rfl rfl aG)) ?_;refine bw ?_;refine aZ (l0:=[]) aA.nil rfl sl rfl (λa c=>tf a _ _ _ e a1 a1) (λ⟨⟨u,x⟩,y⟩ _=>?_);refine aS ?_;intro z A B;refine aJ ?_;refine b2 rfl (λq=>?_) (λq=>?_);simp only[bU] at q
 refine aR ?_;refine aZ (l0:=[]) aA.nil rfl sl rfl (λa c=>tf a _ _ _ e a1 a1) (λ⟨⟨i,j⟩,k⟩ _=>?_);refine aS ?_;intro l m n;refine aJ ?_;refine b2 rfl (λr=>?_) (λr=>?_);simp only[bU] at r
 refine b5 ?_;intro d b;exact ca.of ⟨_,_,_,_,_⟩ aU rfl b.ext;simp only[bU] at r
 refine aR ?_;intro d b;exact ca.of ⟨_,_,_,_,_⟩ aU rfl b.ext;simp only[bU] at q
 refine al ?_;refine aZ (l0:=[]) aA.nil rfl sl rfl (λa c=>tf a _ _ _ e a1 a1) (λ⟨⟨i,j⟩,k⟩ _=>?_);refine aS ?_;intro l m n;refine aJ ?_;refine b2 rfl (λs=>?_) (λs=>?_);simp only[bU] at s
 refine b5 ?_;intro d b;exact ca.of ⟨_,_,_,_,_⟩ aU rfl b.ext;simp only[bU] at s
 refine aR ?_;intro d b;exact ca.of ⟨_,_,_,_,_⟩ aU rfl b.ext
theorem SU (w:World) (F:Nat→Prop) (A:Option Addr) (n c:Nat) (gs:List (List Int)) (f:cr.d8 w F A n c gs) (b:cr.mJ gs) (a0:cr.iK):
 Calls prog 333 [cr.s8 a0,.slice A n c].toArray w (HM w):=by
 have Zz:=f.len
 have ZA:=b.1
 refine aW func333 ntmps333 ?_;refine ah ?_;intro x ZB ZC;refine aq ?_;intro y ZD ZE;refine aJ ?_;refine b3 (ι:=Nat × cr.iK) (λt=>[(1,.slice A n c),(2,.pointer (some ⟨x,0,none⟩)),(4,.pointer (some ⟨y,0,none⟩)),(5,.int .i64 (t.1 :Int))]) (λt=>af w [] [aD y [.int .i64 0,.int .i64 0,.int .i64 0,.int .i64 0,.int .i64 0] 101,aD x [.int .i64 t.2.dg,.int .i64 t.2.fn,.int .i64 t.2.an,.int .i64 t.2.aM,.int .i64 t.2.fl] 101]) (λt=>t.1≤n) (λt=>n - t.1) ?_ ?_;exact λw' E=>⟨(0,a0),bN _,(cu rfl rfl rfl rfl),E⟩
 rintro⟨i,a⟩ hi;obtain⟨dg,fn,an,aM,fl⟩:=a;dsimp only at hi ⊢
 refine aJ ?_;refine aj (λG=>?_) (λG=>?_);have B:i<gs.length:=by omega
 obtain⟨g,C⟩ : ∃g,gs[i]? = some g:=⟨gs[i]'B,bE _⟩;obtain⟨bX,X,p,q,j,_,k,l⟩:=f.at_ C;have ai:=l.len
 have ZF:=(b.2 g (c8 C)).2.1
 have H:=cr.Sm b i
 have o:=cr.Su B
 refine aK ?_;refine ao rfl zX rfl (λd b=>cr.Bg d _ _ _ _ gs (f.ext b.ext av) ‹cr.mJ gs› i aa) ?_;refine cE ?_;refine aj (λI=>?_) (λI=>?_);refine bG [0,1,2,3,4,5,6] 2 [[(7,false,[8,9]),(10,true,[])]] ?_;refine ar ?_;refine aL rfl (λv s=>(Bk rfl rfl rfl aG)) ?_;refine ar ?_;refine aL rfl (λv s=>(bD (q:=i) km rfl rfl rfl j rfl aa aG)) ?_;refine aL rfl (λv s=>(ba ib rfl rfl (λu J=>by subst J;exact s.ct k (by simp[aB])) aG)) ?_;refine ar ?_;refine ao rfl OB rfl (λd b=>cr.Sn d _ _ _ _ g (l.ext b.ext av) aa) ?_;refine aq ?_;refine aL rfl (λv s=>(Bj rfl rfl rfl aG)) ?_;refine cE ?_;exact bg (i+1,⟨_,_,_,_,_⟩) bm bm (cu rfl rfl rfl rfl) (λ_ h=>h.aw ae);refine aC ?_;refine aj (λaH=>?_) (λaH=>?_);have D:=aH
 refine ar ?_;refine ev rfl ((b1 D)) ?_;refine aS ?_;intro K L M;refine aJ ?_;refine bD (q:=i) km rfl rfl rfl j rfl aa ?_;refine ba ib rfl rfl (λu e=>e.ct k av) ?_;refine aS ?_;refine aj (λN=>?_) (λN=>?_);refine ah ?_;refine bD (q:=i) km rfl rfl rfl j rfl aa ?_;refine ba ib rfl rfl (λu e=>e.ct k av) ?_;refine ao rfl E3 rfl (λd b=>cr.Hn d _ _ _ _ g (l.ext b.ext av) aa aa) ?_;refine bw ?_;refine aV 64 rfl (λO=>?_) (λO=>?_);refine aC ?_;refine aj (λP=>?_) (λP=>?_);refine aR ?_;refine aV 71 rfl (λQ=>?_) (λQ=>?_);refine aC ?_;refine aj (λR=>?_) (λR=>?_);refine bH ?_
 (exfalso;omega)
 refine aJ ?_;exact bg (i+1,⟨_,_,_,_,_⟩) bm bm (cu rfl rfl rfl rfl) (λ_ h=>h.aw ae);refine cE ?_;exact bg (i+1,⟨_,_,_,_,_⟩) bm bm (cu rfl rfl rfl rfl) (λ_ h=>h.aw ae);refine al ?_;refine aV 71 rfl (λS=>?_) (λS=>?_);refine aC ?_;refine aj (λT=>?_) (λT=>?_);refine bH ?_
 (exfalso;omega)
 refine aJ ?_
 (exfalso;omega)
 refine cE ?_
 (exfalso;omega)
 refine bw ?_;refine aV 71 rfl (λU=>?_) (λU=>?_);refine aC ?_;refine aj (λV=>?_) (λV=>?_);refine bH ?_
 (exfalso;omega)
 refine aJ ?_;exact bg (i+1,⟨_,_,_,_,_⟩) bm bm (cu rfl rfl rfl rfl) (λ_ h=>h.aw ae);refine cE ?_;exact bg (i+1,⟨_,_,_,_,_⟩) bm bm (cu rfl rfl rfl rfl) (λ_ h=>h.aw ae);refine aJ ?_;refine ao rfl E4 rfl (λd b=>cr.Ho d _ _ _ _ gs (f.ext b.ext av) ‹cr.mJ gs› i aa) ?_;generalize cr.mN gs i=r at o ⊢
 obtain⟨W,m⟩:=r;dsimp only at o ⊢
 refine bw ?_;refine gH (r:=((i+m:Nat):Int)) rfl rfl rfl (by rw[←Int.natCast_add];exact wrap64 aa aa) ?_;refine aK ?_;refine aV 64 rfl (λY=>?_) (λY=>?_);refine aC ?_;refine aj (λZ=>?_) (λZ=>?_);refine aR ?_;refine aV 71 rfl (λZa=>?_) (λZa=>?_);refine aC ?_;refine aj (λZb=>?_) (λZb=>?_);refine bH ?_
 (exfalso;omega)
 refine aJ ?_;exact bg (i+m+1,⟨_,_,_,_,_⟩) bm bm (cu rfl rfl rfl rfl) (λ_ h=>h.aw ae);refine cE ?_;exact bg (i+m+1,⟨_,_,_,_,_⟩) bm bm (cu rfl rfl rfl rfl) (λ_ h=>h.aw ae);refine al ?_;refine aV 71 rfl (λZc=>?_) (λZc=>?_);refine aC ?_;refine aj (λZd=>?_) (λZd=>?_);refine bH ?_
 (exfalso;omega)
 refine aJ ?_
 (exfalso;omega)
 refine cE ?_
 (exfalso;omega)
 refine bw ?_;refine aV 71 rfl (λZe=>?_) (λZe=>?_);refine aC ?_;refine aj (λZf=>?_) (λZf=>?_);refine bH ?_
 (exfalso;omega)
 refine aJ ?_;exact bg (i+m+1,⟨_,_,_,_,_⟩) bm bm (cu rfl rfl rfl rfl) (λ_ h=>h.aw ae);refine cE ?_;exact bg (i+m+1,⟨_,_,_,_,_⟩) bm bm (cu rfl rfl rfl rfl) (λ_ h=>h.aw ae);have D:=aH
 refine ay ?_;refine aj (λZg=>?_) (λZg=>?_);refine aS ?_;intro K L M;refine aJ ?_;refine bD (q:=i) km rfl rfl rfl j rfl aa ?_;refine ba ib rfl rfl (λu e=>e.ct k av) ?_;refine aS ?_;refine aj (λZh=>?_) (λZh=>?_);refine ah ?_;refine bD (q:=i) km rfl rfl rfl j rfl aa ?_;refine ba ib rfl rfl (λu e=>e.ct k av) ?_;refine ao rfl E3 rfl (λd b=>cr.Hn d _ _ _ _ g (l.ext b.ext av) aa aa) ?_;refine bw ?_;refine aV 64 rfl (λZi=>?_) (λZi=>?_);refine aC ?_;refine aj (λZj=>?_) (λZj=>?_);refine aR ?_;refine aV 71 rfl (λZk=>?_) (λZk=>?_);refine aC ?_;refine aj (λZl=>?_) (λZl=>?_);refine bH ?_
 (exfalso;omega)
 refine aJ ?_
 (exfalso;omega)
 refine cE ?_
 (exfalso;omega)
 refine al ?_;refine aV 71 rfl (λZm=>?_) (λZm=>?_);refine aC ?_;refine aj (λZn=>?_) (λZn=>?_);refine bH ?_;exact bg (i+1,⟨_,_,_,_,_⟩) bm bm (cu rfl rfl rfl rfl) (λ_ h=>h.aw ae);refine aJ ?_
 (exfalso;omega)
 refine cE ?_;exact bg (i+1,⟨_,_,_,_,_⟩) bm bm (cu rfl rfl rfl rfl) (λ_ h=>h.aw ae);refine bw ?_;refine aV 71 rfl (λZo=>?_) (λZo=>?_);refine aC ?_;refine aj (λZp=>?_) (λZp=>?_);refine bH ?_;exact bg (i+1,⟨_,_,_,_,_⟩) bm bm (cu rfl rfl rfl rfl) (λ_ h=>h.aw ae);refine aJ ?_
 (exfalso;omega)
 refine cE ?_;exact bg (i+1,⟨_,_,_,_,_⟩) bm bm (cu rfl rfl rfl rfl) (λ_ h=>h.aw ae);refine aJ ?_;refine ao rfl E4 rfl (λd b=>cr.Ho d _ _ _ _ gs (f.ext b.ext av) ‹cr.mJ gs› i aa) ?_;generalize cr.mN gs i=r at o ⊢
 obtain⟨W,m⟩:=r;dsimp only at o ⊢
 refine bw ?_;refine gH (r:=((i+m:Nat):Int)) rfl rfl rfl (by rw[←Int.natCast_add];exact wrap64 aa aa) ?_;refine aK ?_;refine aV 64 rfl (λZq=>?_) (λZq=>?_);refine aC ?_;refine aj (λZr=>?_) (λZr=>?_);refine aR ?_;refine aV 71 rfl (λZs=>?_) (λZs=>?_);refine aC ?_;refine aj (λZt=>?_) (λZt=>?_);refine bH ?_
 (exfalso;omega)
 refine aJ ?_
 (exfalso;omega)
 refine cE ?_
 (exfalso;omega)
 refine al ?_;refine aV 71 rfl (λZu=>?_) (λZu=>?_);refine aC ?_;refine aj (λZv=>?_) (λZv=>?_);refine bH ?_;exact bg (i+m+1,⟨_,_,_,_,_⟩) bm bm (cu rfl rfl rfl rfl) (λ_ h=>h.aw ae);refine aJ ?_
 (exfalso;omega)
 refine cE ?_;exact bg (i+m+1,⟨_,_,_,_,_⟩) bm bm (cu rfl rfl rfl rfl) (λ_ h=>h.aw ae);refine bw ?_;refine aV 71 rfl (λZw=>?_) (λZw=>?_);refine aC ?_;refine aj (λZx=>?_) (λZx=>?_);refine bH ?_;exact bg (i+m+1,⟨_,_,_,_,_⟩) bm bm (cu rfl rfl rfl rfl) (λ_ h=>h.aw ae);refine aJ ?_
 (exfalso;omega)
 refine cE ?_;exact bg (i+m+1,⟨_,_,_,_,_⟩) bm bm (cu rfl rfl rfl rfl) (λ_ h=>h.aw ae);refine ah ?_;refine aZ (l0:=[]) aA.nil rfl OC rfl (λd b=>ST d dg fn an aM fl _ H) (λz _=>?_);refine aR ?_;exact bg (i+1,⟨z.dg,z.fn,z.an,z.aM,z.fl⟩) bm bm bO (λ_ h=>h.aw ae);refine bH ?_;intro ZG Zy;exact ca.of ⟨_,_,_,_,_⟩ aU rfl Zy.ext
theorem HN (gs:List (List Int)):cr.mJ (cr.fo gs):=by
 refine⟨cr.Be gs,λg b=>?_⟩;have c:=cr.Sj gs g b
 refine⟨c.1,c.2,λx a=>?_⟩;have d: ∀n:Int,-1≤cr.nD n∧cr.nD n≤65535:=λn=>by unfold cr.nD;omega
 have e: ∀g:List Int,∀x∈cr.j1 g,-1≤x∧x≤65535:=λg x a=>by
  unfold cr.j1 at a
  split at a
  simp at a;omega
  obtain⟨y,_,rfl⟩:=dF.1 a;exact d y
 unfold cr.fo at b
 split at b
 simp only[eL] at b
 subst b;simp only[eL] at a
 omega
 obtain⟨y,_,rfl⟩:=dF.1 b;exact e y x a
theorem SV (w:World) (F:Nat→Prop) (A:Option Addr) (n c:Nat) (gs:List (List Int)) (b:cr.d8 w F A n c gs) (p:gs.length≤1000000) (d: ∀g∈gs,g.length≤1000000):
 Calls prog 229 [.slice A n c].toArray w (fb (λi:kF=>i.val) kF.aF (λi=>cr.mJ i.gs∧oY i) w):=by
 refine (cr.Bf w F A n c gs b (by have:=b.len;omega) d).mono ?_;rintro e w' ⟨f,h,c',rfl,j,l⟩;have a:=HN gs
 refine⟨⟨f,h,c',w.heap.size,w'.heap.size,cr.fo gs⟩,⟨a,⟨by have:=a.1;show (cr.fo gs).length≤1000;omega,λg m=>by have:=(a.2 g m).2.1;omega⟩⟩,rfl,j,⟨λ_=>cd _,l.hA⟩,λk o=>(n8.1 o).1,xX _ _ _ _⟩
structure BG (w:World) (S:List Nat) (A:Option Addr) (n c:Nat) (gs:List (List Int)):Prop where
 rd:cr.d8 w (λk=>k∉S) A n c gs
 n:gs.length≤1000
 g: ∀g∈gs,g.length≤1000
theorem BG.vj {w:World} {S:List Nat} {A:Option Addr} {n c:Nat} {gs:List (List Int)} (h:BG w S A n c gs): ∀g∈gs,g.length≤1000000:=λg a=>by have:=h.g g a;omega
abbrev BH (s:bk) (dg fn an aM fl:Int):bk:={ s with bf:={ s.bf with at_:=⟨dg,fn,an,aM,fl⟩ } }
theorem SW (s:bk) (dg fn an aM fl:Int):dd (eU s) (0+0+0) [.int .i64 dg,.int .i64 fn,.int .i64 an,.int .i64 aM,.int .i64 fl]=eU (BH s dg fn an aM fl):=by
 simp only[dd,eU,BH,dG,Nat.reduceAdd,qy,mo]
theorem SX (w:World) (s:bk) (f:bb w (aO s)) (a:dO s) (A:Option Addr) (n c:Nat) (gs:List (List Int)) (b:BG w (aB (aO s)) A n c gs):
 Calls prog 250 [ptr s.g,.slice A n c].toArray w (dW 0 s (.tuple #[]) w):=by
 refine bI func250 ntmps250 f ?_;refine aC ?_;refine bG [0,1,2,3,4,5,6] 3 [[(7,false,[]),(8,false,[9,10,11]),(12,true,[])]] ?_;refine ay ?_;refine aL rfl (λp i=>(cw (vs:=[.int .i64 s.bf.at_.dg,.int .i64 s.bf.at_.fn,.int .i64 s.bf.at_.an,.int .i64 s.bf.at_.aM,.int .i64 s.bf.at_.fl]) r_ rfl rfl rfl (λq k j u l=>by subst k;exact i.kY (sz:=5) (xs:=eU s) aQ rfl j u l) aG)) ?_;refine ah ?_;refine gg rfl zM rfl (λd e=>SV d _ A n c gs (b.rd.ext e.ext (λ_ h=>h)) (by have:=b.n;omega) b.vj) (λz m=>?_);refine bY (λ_=>True) (λ_ h=> .inr (h.rem bv.head)) (λ_ h=>aU) ?_;refine ar ?_;refine aZ (l0:=[]) aA.nil rfl N4 rfl (λd e=>SU d _ _ _ _ z.gs (e.has (c:=z.aF) aQ).2 m.1 ⟨s.bf.at_.dg,s.bf.at_.fn,s.bf.at_.an,s.bf.at_.aM,s.bf.at_.fl⟩) (λ⟨dg,fn,an,aM,fl⟩ _=>?_);refine bY (λ_=>True) (λ_ h=> .inr ⟨.inr (h.rem bv.head),dj⟩) (λ_ h=>aU) ?_;refine ay ?_;refine eX r_ rfl rfl (by (rw[SW];exact bn.tail bn.head)) rfl (OZ rfl rfl rfl rfl rfl) (by exact dT rfl) ?_;refine aS ?_;intro t o;exact aN (BH s dg fn an aM fl) ⟨rfl,rfl,rfl,⟨a.r,a.st,a.n⟩,sZ s.abs _⟩ o
theorem SY (w:World) (s o:bk) (J:bb w (aO s)) (i:dO s) (D:cZ s.ap.abs) (m:o.an.pred w) (E:o.ap.an.pred w) (F:2≤o.ap.cols∧o.ap.cols≤1000) (p:o.g∉aB (aO s)) (G:o.ap.g∉aB (aO s)):
 Calls prog 386 [ptr s.g,ptr o.g].toArray w (dW 0 s (.tuple #[]) w):=by
 have K:nG prog 50 108 s.bf.enc o.bf.enc=true:=by kernel_rfl
 obtain⟨r,H⟩:=Bm 50 _ _ _ K 9950;have I: ∀v,hd prog 108 v= .agg v.toArray:=λv=>by
  have x:js prog 108=true:=by kernel_rfl
  simp[hd,x]
 rw[I,I] at H
 refine calls (n:=34) func386 rfl ntmps386 rfl ?_;refine cG (H':=af w (aB (aO s)) (aO s)) ?_ (Sub.refl _) J.start;refine kU (kU (mY ?_));refine hW rfl rfl ?_;refine wZ underlying49 rfl rfl rfl ?_;refine hW rfl rfl ?_;refine cA rfl rfl rfl ?_;refine hW rfl rfl ?_;refine cA rfl rfl rfl ?_;refine wZ underlying49 rfl rfl rfl ?_;refine kj rfl rfl rfl rfl ?_;refine rZ (mr ?_);refine fL rfl (rfl) ?_;refine y0 (mr (kU (kU ?_)));refine ew [0,1,2,3,4,5,6,7,8] 0 [[]] (_) mixed ab (λ_ e=>e.drew) (λ_ h=>h) ?_;refine aL rfl (λd c=>(hW rfl rfl aG)) ?_;refine aL rfl (λd c=>(ni rfl rfl aG)) ?_;refine aL rfl (λd c=>(m5 wu rfl rfl aG)) ?_;refine aL rfl (λd c=>(cw (vs:=s.bf.enc) qO rfl rfl rfl (λt k j u q=>by subst k;exact c.kY (sz:=14) (xs:=eU s) aQ rfl j u q) aG)) ?_;refine aL rfl (λd c=>(hW rfl rfl aG)) ?_;refine aL rfl (λd c=>(ni rfl rfl aG)) ?_;refine aL rfl (λd c=>(m5 wu rfl rfl aG)) ?_;refine aL rfl (λd c=>(cw (vs:=o.bf.enc) qO rfl rfl rfl (λt k j u q=>by subst k;exact c.jy (sz:=14) (xs:=eU o) m p rfl j u q) aG)) ?_;refine aL rfl (λd c=>(SB LG rfl rfl rfl H aG)) ?_;refine pK ?_;refine wT (mr ?_);refine b2 rfl (λA=>?_) (λA=>?_);simp only[pj,Bool.not_eq_false',e2,e3] at A
 refine mY ?_;refine hW rfl rfl ?_;refine hW rfl rfl ?_;refine ni rfl rfl ?_;refine m5 wu rfl rfl ?_;refine cw (vs:=o.bf.enc) qO rfl rfl rfl (λt x j u q=>x.jy (sz:=14) (xs:=eU o) m p rfl j u q) ?_;refine ni rfl rfl ?_;refine m5 wu rfl rfl ?_;refine eX qO rfl rfl (by rw[Hd];exact bn.head) rfl (aI.cons rfl (aI.cons rfl (aI.cons rfl (aI.cons rfl (fY rfl rfl rfl rfl rfl rfl rfl rfl rfl rfl))))) (by exact dT rfl) ?_;refine rZ (mr ?_);refine ew [0,1,2,3,4,5] 2 [[(6,false,[]),(7,true,[])]] (_) mixed ab (λ_ e=>e.drew) (λ_ h=>h) ?_;refine aL rfl (λd c=>(hW rfl rfl aG)) ?_;refine aL rfl (λd c=>(hW rfl rfl aG)) ?_;refine aL rfl (λd c=>(ni rfl rfl aG)) ?_;refine aL rfl (λd c=>(m5 DQ rfl rfl aG)) ?_;refine aL rfl (λd c=>(ba bM rfl rfl (λt k=>by subst k;exact c.bV (xs:=eU o) m p rfl) aG)) ?_;refine aL rfl (λd c=>(hW rfl rfl aG)) ?_;refine pK ?_;refine sm [_] rfl (tW.2 ⟨?_,by simp⟩);refine ao rfl i7 rfl (λl f=>ji l o (f.dD m (by simpa [aD] using p)) (f.dD E (by simpa [aD] using G)) F) ?_;refine bY (λ_=>True) (λ_ h=> .inr h) (λ_ h=>aU) ?_;refine pK ?_;refine sm [_] rfl (tW.2 ⟨?_,by simp⟩);refine aZ (l0:=aO { s with bf:=o.bf }) (aA.cons bi (aA.cons bi (aA.cons bi (aA.cons bi (aA.cons bi (aA.cons bi (aA.cons bi aA.nil))))))) rfl EB rfl (λl f=>xK l { s with bf:=o.bf } (f.bp (aA.cons bi (aA.cons bi (aA.cons bi (aA.cons bi (aA.cons bi (aA.cons bi (aA.cons bi aA.nil)))))))) ⟨i.r,i.st,i.n⟩ D o.y _) (λB C=>?_);refine bY (λ_=>True) (λ_ _=> .inl rfl) (λ_ h=>aU) ?_;refine pK ?_;refine wT ?_;refine y1 results386 (λL e=>?_);exact aP.bP B ((ge.trans (a:=0) (b:=0) (z:={ s with bf:=o.bf }) ⟨rfl,rfl,rfl,⟨i.r,i.st,i.n⟩,sZ s.abs _⟩ (C.gV (xJ _ _ _)))) rfl (e.aw (aA.cons bi (aA.cons bi (aA.cons bi (aA.cons bi (aA.cons bi (aA.cons bi (aA.cons bi aA.nil))))))));simp only[pj,Bool.not_eq_false',e2,e3] at A
 refine y0 (mr ?_);refine ew [0,1,2,3,4,5] 2 [[(6,false,[]),(7,true,[])]] (_) mixed ab (λ_ e=>e.drew) (λ_ h=>h) ?_;refine aL rfl (λd c=>(hW rfl rfl aG)) ?_;refine aL rfl (λd c=>(hW rfl rfl aG)) ?_;refine aL rfl (λd c=>(ni rfl rfl aG)) ?_;refine aL rfl (λd c=>(m5 DQ rfl rfl aG)) ?_;refine aL rfl (λd c=>(ba bM rfl rfl (λt k=>by subst k;exact c.bV (xs:=eU o) m p rfl) aG)) ?_;refine aL rfl (λd c=>(hW rfl rfl aG)) ?_;refine pK ?_;refine sm [_] rfl (tW.2 ⟨?_,by simp⟩);refine ao rfl i7 rfl (λl f=>ji l o (f.dD m (by simpa [aD] using p)) (f.dD E (by simpa [aD] using G)) F) ?_;refine bY (λ_=>True) (λ_ h=> .inr h) (λ_ h=>aU) ?_;refine pK ?_;refine sm [_] rfl (tW.2 ⟨?_,by simp⟩);refine aZ (l0:=aO s) (aA.cons bi (aA.cons bi (aA.cons bi (aA.cons bi (aA.cons bi (aA.cons bi (aA.cons bi aA.nil))))))) rfl EB rfl (λl f=>xK l s (f.bp (aA.cons bi (aA.cons bi (aA.cons bi (aA.cons bi (aA.cons bi (aA.cons bi (aA.cons bi aA.nil)))))))) i D o.y _) (λB C=>?_);refine bY (λ_=>True) (λ_ _=> .inl rfl) (λ_ h=>aU) ?_;refine pK ?_;refine wT ?_;refine y1 results386 (λL e=>?_);exact aP.bP B (C.gV (xJ _ _ _)) rfl (e.aw (aA.cons bi (aA.cons bi (aA.cons bi (aA.cons bi (aA.cons bi (aA.cons bi (aA.cons bi aA.nil))))))))
theorem af.x3 {b w:World} {S:List Nat} {cs:List Chunk} {l:List bR} {g:bR} (h:af b S (aT (l.map bR.aF)::g.aF::cs) w):af b S (aT ((l++[g]).map bR.aF)::cs) w:=by
 have a:af b S (aT [g.aF]::aT (l.map bR.aF)::cs) w:=(h.perm (List.Perm.swap _ _ _)).close (l:=[g.aF]) ae
 rw[gb];exact (a.perm (List.Perm.swap _ _ _)).Bx
theorem af.tg {b w:World} {S:List Nat} {cs:List Chunk} (h:af b S cs w):af b S (aT ([].map bR.aF)::cs) w:=h.mZ (λc a=>by simp at a) rfl
theorem SZ (w:World) (n:Int) (f:0≤n∧n≤100000):Calls prog 142 [.int .i64 n].toArray w
 (aP (λg:Nat=> .tuple #[ptr g,.int .i64 0]) [] (λg=>b9 ⟨g,⟨none,0,[]⟩,n,0,0,0⟩) (λ_=>True) w):=by
 refine aW func142 ntmps142 ?_;refine bw ?_;refine aV 6 rfl (λa=>?_) (λa=>?_);have d:=aY a
 refine cE ?_;intro c b
 (exfalso;omega)
 have d:=a8 a
 refine aC ?_;refine aj (λaH=>?_) (λaH=>?_);refine aJ ?_;intro c b
 (exfalso;omega)
 refine aC ?_;intro e h i;refine al ?_;intro c b;exact aP.bP e aU rfl (((b.eO 157 cf).tg).aw ae)
theorem x4 (w:World) (r c:Int):Calls prog 143 [.int .i64 r,.int .i64 c].toArray w (Pure (.bool (decide ((1≤r∧r≤1000)∧2≤c∧c≤1000))) w):=by
 refine aW func143 ntmps143 ?_;refine aR ?_;refine aV 7 rfl (λb=>?_) (λb=>?_);have f:=aY b
 refine al ?_;refine aV 11 rfl (λaH=>?_) (λaH=>?_);have g:=aY aH
 refine al ?_;refine aV 15 rfl (λd=>?_) (λd=>?_);have h:=aY d
 refine aR ?_;intro e a;exact⟨by rw[Ending.returned.injEq,Value.bool.injEq];symm;(rw[gG];omega),a.ext⟩;have h:=a8 d
 refine aK ?_;intro e a;exact⟨by rw[Ending.returned.injEq,Value.bool.injEq];symm;(rw[e2];omega),a.ext⟩;have g:=a8 aH
 refine bw ?_;intro e a;exact⟨by rw[Ending.returned.injEq,Value.bool.injEq];symm;(rw[e2];omega),a.ext⟩;have f:=a8 b
 refine dB ?_;intro e a;exact⟨by rw[Ending.returned.injEq,Value.bool.injEq];symm;(rw[e2];omega),a.ext⟩
theorem S0 (w:World) (p:bq) (a:bb w (bB p)):Calls prog 179 [ptr p.g].toArray w
 (aP (λ_:Unit=>p.be.val) (bB p) (λ_=>bB { p with be:=⟨none,0,[]⟩ }++[p.be.au]) (λ_=>True) w):=by
 refine bI func179 ntmps179 a ?_;refine FG ?_;intro c b;exact aP.bP () aU rfl ((b.eO 179 jQ).aw ae)
theorem S1 (w:World) (r:dh) (a:r.an.pred w) (i k:Int) (hi:0≤i∧i≤1000000) (b:0≤r.first∧r.first≤1000000) (c: (r.s.l.length:Int)≤1000000) (d:eq r i=k):Calls prog 97 [ptr r.g,.int .i64 i].toArray w (Pure (.int .i64 k) w):=by
 subst d;exact xf w r a i hi b c
theorem BI {w:World} {l:List bR} {g:bR} (h: (aT (l.map bR.aF)).pred w) (a:g∈l):Rd bJ w (λ_=>True) g.A g.cells.length g.c g.cells:=
 gT (e:=282) (E:=bJ) (h g.aF (dF.2 ⟨g,a,rfl⟩))
theorem S2 (w:World) (r:dh) (p:bb w (b9 r)) (a:cV r) (y: ∀x∈r.rows,x.1.length≤1000000):Calls prog 64 [ptr r.g].toArray w
 (aP (λz:db=>z.val) (b9 r) (λz=>b9 r++[z.au,z.cc]) (λz=>bW z.l=r.rows) w):=by
 have A:=a.n
 have K:=a.len
 have M:=a.room
 have N:=a.first
 refine calls (n:=25) func64 rfl ntmps64 rfl ?_;refine cG (H':=af w (aB (b9 r)) (b9 r++[db.au ⟨none,0,[]⟩,db.cc ⟨none,0,[]⟩])) ?_ (Sub.refl _) (λx o=>(((p.start x o).eO 157 cf).tg).aw ae);refine b5 ?_;refine ao rfl zy rfl (λb d=>Ax b r (d.has aQ)) ?_;refine aS ?_;refine b3 (ι:=Nat × db) (λi=>[(0,ptr r.g),(3,i.2.val),(6,.int .i64 r.n),(7,.int .i64 (i.1 :Int))]) (λi=>af w (aB (b9 r)) (b9 r++[i.2.au,i.2.cc])) (λi=>(i.1 :Int)≤r.n∧bW i.2.l=r.rows.take i.1) (λi=>r.n.toNat - i.1) ?_ ?_;exact λw' B=>⟨(0,⟨none,0,[]⟩),⟨A.1,rfl⟩,(cu rfl rfl rfl rfl),B⟩
 rintro⟨i,z⟩ ⟨hi,f⟩;dsimp only at hi f ⊢
 have O:z.l.length=i:=by
  have:=aX List.length f
  rw[cN,dn,lb] at this
  omega
 refine al ?_;refine aj (λC=>?_) (λC=>?_);have P:=pY a (i:=i) aa aa
 obtain⟨g,e⟩ : ∃g,r.s.l[(eq r i).toNat]? = some g:=⟨r.s.l[(eq r i).toNat]'aa,bE _⟩;obtain⟨k,m⟩ : ∃k:Nat,eq r i=k:=⟨(eq r i).toNat,aa⟩;rw[m,gZ] at e
 obtain⟨gs,t⟩:=q5 (p.all r.s.au av) aa;have D:=c8 e
 have Q:g.cells.length≤1000000:=y g.fk (c8 (i:=i) (by rw[p0,ax aa,pZ,m,gZ,e];rfl))
 refine aR ?_;refine bG [0,1,2,3,4,5,6] 4 [[(7,false,[8,9]),(10,false,[]),(11,false,[]),(12,true,[13])]] ?_;refine aJ ?_;refine ao rfl wD rfl (λb d=>S1 b r (d.has aQ) (i:Int) (k:Int) aa aa aa m) ?_;refine bY (_) (λ_ h=> .inr h) (λ_ h=>h) ?_;refine aL rfl (λF v=>(bD (q:=k) dI rfl rfl rfl t rfl aa aG)) ?_;refine aL rfl (λF v=>(cw (vs:=g.enc) gL rfl rfl rfl (λR G j u H=>by subst G;exact v.gx (E:=cf) (c:=r.s.c) (L:=r.s.l) bF t e j u H) aG)) ?_;refine ar ?_;refine gg rfl Ei rfl (λb d=>Ga b _ _ _ _ g.cells g.cont (BI (d.has (c:=r.s.cc) cp) D) aa) (λx o=>?_);refine bY (λ_=>True) (λ_ h=> .inr ⟨.inr (h.rem bv.head),(h.rem bv.head)⟩) (λ_ h=>aU) ?_;refine ar ?_;refine dx (E:=cf) _ dI rfl rfl rfl rfl rfl (λS T U=>?_);refine bY (λ_=>True) (λ_ h=> .inr ⟨.inr ⟨.inr ((h.rem bv.head).rem bv.head),((h.rem bv.head).rem bv.head)⟩,dj⟩) (λ_ h=>aU) ?_;refine ar ?_;refine er (E:=cf) dI rfl rfl rfl bi (λ_ _=>jb) b4 b4 (λV W=>?_);refine aR ?_;have I:r.rows[i]? = some x.fk:=by rw[p0,ax aa,pZ,m,gZ,e,o];rfl
 refine bg (i+1,⟨_,_,z.l++[x]⟩) ⟨by dsimp only;omega,?_⟩ bm (cu rfl rfl rfl rfl) (λ_ h=>(af.x3 (l:=z.l) (g:=x) (h.aw (l:=[z.cc,x.aF,r.an,r.s.au,r.s.cc,au 157 cf _ _ (z.l++[x])]) ae)).aw ae);show (z.l++[x]).map bR.fk=r.rows.take (i+1)
 rw[gb,fU,I,←f];rfl
 refine bH ?_;intro X J;exact aN z (by rw[f,eu (by rw[lb];omega)]) J
def nJ (cols:Int):bQ:=(List.replicate (la cols) (jR 0 0),false)
theorem S3 {cols:Int} (h:2≤cols∧cols≤1000):nJ cols=q4 cols 0 0:=by
 unfold nJ q4 la;rw[show (max 0 (min cols 1000)).toNat=cols.toNat by omega]
theorem BJ (w:World) (p:bq) (d:bb w (bB p)) (n:Int) (u:n≤1000) (ai:p.s.l.length≤1000):Calls prog 144 [ptr p.g,.int .i64 n].toArray w
 (aP (λ_:db=> .tuple #[]) (bB p) (λz=>bB { p with s:=z }) (λz=>bW z.l=bW p.s.l++List.replicate (n.toNat - p.s.l.length) (nJ p.cols)) w):=by
 refine bI func144 ntmps144 d ?_;refine aq ?_;refine b3 (ι:=Nat × db) (λi=>[(0,ptr p.g),(1,.int .i64 n)]) (λi=>af w (aB (bB p)) (bB { p with s:=i.2 })) (λi=>bW i.2.l=bW p.s.l++List.replicate i.1 (nJ p.cols)∧i.2.l.length=p.s.l.length+i.1∧i.1≤n.toNat - p.s.l.length) (λi=>n.toNat - i.2.l.length) ?_ ?_;exact λw' e=>⟨(0,p.s),⟨by simp,rfl,bN _⟩,(iA rfl rfl),e⟩
 rintro⟨i,z⟩ ⟨b,f,j⟩;dsimp only at b f j ⊢
 refine bw ?_;refine aj (λa=>?_) (λa=>?_);refine ah ?_;refine ew [0,1,2,3,4,5,6] 4 [[(7,false,[]),(8,false,[]),(9,false,[10,11]),(12,true,[])]] (_) mixed ab (λ_ c=>c.drew) (λ_ h=>(show (bq.an { p with s:=z }).pred _ from h.has aQ)) ?_;refine aS ?_;refine aL rfl (λv k=>(ba wt rfl rfl (λy m=>by subst m;exact BE k rfl) aG)) ?_;refine aS ?_;refine gg rfl zL rfl (λo q=>AJ o { p with s:=z } (q.has aQ) 0 0) (λx t=>?_);refine bY (λ_=>True) (λ_ h=> .inr (h.has bF)) (λ_ h=>aU) ?_;refine ar ?_;refine dx (E:=cf) _ dI rfl rfl rfl rfl rfl (λA B C=>?_);refine bY (λ_=>True) (λ_ h=> .inr ⟨.inr (h.has cp),dj⟩) (λ_ h=>aU) ?_;refine ar ?_;refine er (E:=cf) dI rfl rfl rfl bi (λ_ _=>nj) b4 b4 (λD F=>?_);refine bY (λ_=>True) (λ_ h=> .inr ⟨.inr ⟨.inr (h.has bF),dj⟩,dj⟩) (λ_ h=>aU) ?_;refine aJ ?_;refine bg (i+1,⟨_,_,z.l++[x]⟩) ⟨?_,by simp;omega,by dsimp only at a ⊢;omega⟩ (by simp only[b0,eK,jL];dsimp only at a;omega) (iA rfl rfl) (λ_ h=>(af.x3 (l:=z.l) (g:=x) (h.aw (l:=[z.cc,x.aF,bq.an { p with s:=⟨_,_,z.l++[x]⟩ },aT (b9 p.r),au 157 cf _ _ (z.l++[x]),p.be.au]) ae)).aw ae);show (z.l++[x]).map bR.fk=_
 rw[gb,List.replicate_succ',←e0,←b];show _++[x.fk]=_
 rw[t];rfl
 refine ay ?_;intro G c;exact aP.bP z (by rw[b,show i=n.toNat - p.s.l.length by dsimp only at a;omega]) rfl c
theorem BK (w:World) (p:bq) (q:bb w (bB p)) (a:cV p.r) (t: ∀x∈p.r.rows,x.1.length≤1000000) (v: ∀x∈bW p.s.l,x.1.length≤1000000) (I:p.s.l.length≤1000):Calls prog 34 [ptr p.g].toArray w
 (aP (λz:db=>z.val) (bB p) (λz=>bB p++[z.au,z.cc]) (λz=>bW z.l=p.r.rows++bW p.s.l) w):=by
 have J:=a.n
 have K:=a.len
 have L:=a.room
 refine bI func34 ntmps34 q ?_;refine gN ?_;refine kB (l0:=b9 p.r) (cs1:=λ_=>_) (λ_=>eo) rfl Mk rfl (λd e=>S2 d p.r (e.kA bF) a t) (λz k=>?_);refine ay ?_;refine cG (H':=af w (aB (bB p)) (bB p++[z.au,z.cc])) ?_ (Sub.refl _) (λx f=>(((f.open (l:=b9 p.r++[z.au,z.cc]) cv).close (l:=b9 p.r) ae).aw ae));have M:z.l.length=p.r.n.toNat:=by
  have:=aX List.length k
  rwa [cN,lb] at this
 refine aR ?_;refine b3 (ι:=Nat × db) (λi=>[(3,i.2.val),(16,p.s.val),(17,.int .i64 (p.s.l.length:Int)),(18,.int .i64 (i.1 :Int))]) (λi=>af w (aB (bB p)) (bB p++[i.2.au,i.2.cc])) (λi=>i.1≤p.s.l.length∧bW i.2.l=p.r.rows++(bW p.s.l).take i.1) (λi=>p.s.l.length - i.1) ?_ ?_;exact λw' y=>⟨(0,z),⟨bN _,by simpa using k⟩,(cu rfl rfl rfl rfl),y⟩
 rintro⟨i,u⟩ ⟨hi,b⟩;dsimp only at hi b ⊢
 have N:u.l.length=p.r.n.toNat+i:=by
  have:=aX List.length b
  simp only[cN,b0,dn,lb] at this
  omega
 refine al ?_;refine aj (λB=>?_) (λB=>?_);obtain⟨g,m⟩ : ∃g,p.s.l[i]? = some g:=⟨p.s.l[i]'aa,bE _⟩;have o:=c8 m
 have O:g.cells.length≤1000000:=v g.fk (dF.2 ⟨g,o,rfl⟩)
 refine al ?_;refine iL (E:=cf) cp dI rfl rfl rfl a7 aa (λP C=>?_);refine cw gL rfl rfl rfl (λQ D j u F=>D.gx (E:=cf) cp C bz j u F) ?_;refine aq ?_;intro R S T;refine al ?_;refine gg rfl Ml rfl (λd e=>Qf d _ g.A g.cells.length g.c g.cells g.cont (BI (e.has (c:=p.s.cc) iz) o) aa) (λx f=>?_);refine dx (E:=cf) _ dI rfl rfl rfl rfl rfl (λU V W=>?_);refine er (E:=cf) dI rfl rfl rfl bi (λ_ _=>Fx) b4 b4 (λX Y=>?_);refine aK ?_;have G: (bW p.s.l)[i]? = some x.fk:=by rw[eJ,m,f];rfl
 refine bg (i+1,⟨_,_,u.l++[x]⟩) ⟨by dsimp only;omega,?_⟩ bm (cu rfl rfl rfl rfl) (λ_ h=>(af.x3 (l:=u.l) (g:=x) (h.aw (l:=[u.cc,x.aF,p.an,aT (b9 p.r),p.s.au,p.s.cc,p.be.au,au 157 cf _ _ (u.l++[x])]) ae)).aw ae);show (u.l++[x]).map bR.fk=p.r.rows++(bW p.s.l).take (i+1)
 rw[gb,fU,G,←e0,←b];rfl
 refine bH ?_;intro Z H;exact aN u (by rw[b,eu (by simp;omega)]) H
def o1 (rows cols lines:Int):bZ:=⟨[],lines,List.replicate rows.toNat (q4 cols 0 0),cols,[]⟩
theorem S4 {rows cols lines:Int} (e:1≤rows∧rows≤1000) (a:2≤cols∧cols≤1000) (f:0≤lines∧lines≤100000):cZ (o1 rows cols lines):=by
 refine⟨a,by simp only[o1,g_];omega,λr b=>?_,by simp[o1],by simp only[o1,jL];omega⟩;have:=mV b
 subst this;refine⟨by simp only[q4,g_,o1];omega,λc d=>?_⟩;have:=mV d
 subst this;simp[jR]
abbrev BL (g:Nat) (n:Int):dh:=⟨g,⟨none,0,[]⟩,n,0,0,0⟩
abbrev x5 (g h:Nat) (n cols:Int) (z:db):bq:=⟨g,BL h n,z,cols,⟨none,0,[]⟩⟩
theorem S5 {g:Nat} {n:Int} (a:0≤n∧n≤100000):cV (BL g n):=⟨by simp;omega,a,by simp,by simp,by simp⟩
theorem S6 (w:World) (rows cols lines:Int) (k:1≤rows∧rows≤1000) (a:2≤cols∧cols≤1000) (e:0≤lines∧lines≤100000):Calls prog 98 [.int .i64 rows,.int .i64 cols,.int .i64 lines].toArray w
 (aP (λz:bq=> .tuple #[ptr z.g,.int .i64 0]) [] bB (λz=>cV z.r∧z.abs=o1 rows cols lines) w):=by
 refine aW func98 ntmps98 ?_;refine aJ ?_;refine aZ (l0:=[]) aA.nil rfl MU rfl (λb _=>SZ b lines e) (λh _=>?_);refine bw ?_;refine ao rfl wH rfl (λb a=>x4 b _ _) ?_;refine ar ?_;refine aV 20 rfl (λf=>?_) (λf=>?_);refine cE ?_;intro i d;exact absurd f (by rw[b1 (show (1≤rows∧rows≤1000)∧2≤cols∧cols≤1000 from ⟨k,a⟩)];decide);refine aC ?_;refine aj (λaH=>?_) (λaH=>?_);refine aJ ?_;intro i d;exact absurd rfl aH;refine aK ?_;intro c n o;refine aS ?_;refine cG (H':=af w [] (bB (x5 c h lines cols ⟨none,0,[]⟩))) ?_ (Sub.refl _) (λx m=>(((((m.close (l:=b9 (BL h lines)) ae).eO 157 cf).tg).eO 179 jQ).aw ae));refine ah ?_;refine aZ (l0:=bB (x5 c h lines cols ⟨none,0,[]⟩)) ae rfl zF rfl (λb a=>BJ b (x5 c h lines cols ⟨none,0,[]⟩) (a.bp ae) rows aa av) (λz j=>?_);refine bo ?_;intro i d;exact aN (x5 c h lines cols z) ⟨S5 e,by rw[S3 a] at j;show bZ.mk [] lines (bW z.l) cols []=_;rw[j];rfl⟩ d
def lX (rows cols lines:Int):bd:=⟨lj,o1 rows cols lines,0,0,0,rows - 1,rc,0,0,false,0,cK.jg [] cols.toNat⟩
theorem S7 {rows cols lines:Int} (a:1≤rows∧rows≤1000) (b:2≤cols∧cols≤1000) (c:0≤lines∧lines≤100000):dV (lX rows cols lines):=by
 have d: ((lX rows cols lines).bC.cF.length:Int)=rows:=by simp only[lX,o1,g_];omega
 have e: (lX rows cols lines).bC.cols=cols:=rfl
 refine⟨S4 a b c,?_,?_,?_⟩;show 0≤(0 :Int)∧(0 :Int)<((lX rows cols lines).bC.cF.length:Int)
 omega
 show 0≤(0 :Int)∧(0 :Int)≤cols
 omega
 show 0≤(0 :Int)∧(0 :Int)≤rows - 1∧rows - 1<((lX rows cols lines).bC.cF.length:Int)
 omega
abbrev HO (g:Nat) (p:bq) (a n:Nat) (i:cK.e5) (rows:Int):bk:=⟨g,lj,p,⟨a,cK.jg [] n,i⟩,0,0,0,rows - 1,rc,0,0,false,0⟩
theorem p5 (n:Nat): (cK.jg [] n).length=n:=by simp[cK.jg]
theorem S8 (w:World) (cols:Int) (a:2≤cols∧cols≤1000):Calls prog 99 [.int .i64 cols].toArray w (fb (λs:Nat × cK.e5=>Value.tuple #[ptr s.1,.int .i64 0]) (λs=>cK.eA s.1 (cK.jg [] cols.toNat).length s.2) (λs=>cK.hL (cK.jg [] cols.toNat) s.2) w):=by
 have h:=cK.uY w cols.toNat aa
 rw[show ((cols.toNat:Nat):Int)=cols by omega] at h
 rw[p5];exact h
set_option maxHeartbeats 1000000 in
theorem HP (w:World) (rows cols lines:Int) (e:1≤rows∧rows≤1000) (b:2≤cols∧cols≤1000) (f:0≤lines∧lines≤100000):Calls prog 66 [.int .i64 rows,.int .i64 cols,.int .i64 lines].toArray w
 (aP (λz:bk=> .tuple #[ptr z.g,.int .i64 0]) [] aO (λz=>dO z∧z.abs=lX rows cols lines) w):=by
 refine aW func66 ntmps66 ?_;refine bo ?_;refine aZ (l0:=[]) aA.nil rfl Mz rfl (λa _=>S6 a rows cols lines e b f) (λp ai=>?_);refine b5 ?_;refine aj (λc=>?_) (λc=>?_);refine aR ?_;intro h d;exact absurd rfl c;refine ay ?_;refine gg rfl MA rfl (λa _=>S8 a cols b) (λs i=>?_);refine aJ ?_;refine ao rfl zz rfl (λa b=>A5 a) ?_;refine aS ?_;refine ki (out:=eU (HO 0 p s.1 cols.toNat s.2 rows)) LI rfl rfl (by simp[hx,putAt,dd,Value.cells,lj,u7,rc,gv.enc,fO.enc]) ?_;refine aq ?_;intro j l m;refine al ?_;intro h d;exact aN (HO j p s.1 cols.toNat s.2 rows) ⟨⟨ai.1,i,by have k:p.cols=cols:=aX bZ.cols ai.2;show ((cK.jg [] cols.toNat).length:Int)=p.cols;rw[p5,k];omega⟩,by simp only[bk.abs,ai.2];rfl⟩ d
end Go.Proofs.YtkeokgcdnfjaaaaGreatDoor.Mq
