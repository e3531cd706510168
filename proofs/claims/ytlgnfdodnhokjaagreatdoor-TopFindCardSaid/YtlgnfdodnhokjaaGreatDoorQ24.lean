/- part 24 of the proof -/
import Derived.Test.YtlgnfdodnhokjaaGreatDoorQ23
namespace Go.Proofs.YtlgnfdodnhokjaaGreatDoor.Mq
open Go Go.RowKit Go.Proofs Tryz
def Ix (w:World):Ending→World→Prop:=ca ct.tw (λ_=>True) w
theorem tE (w:World) (v low high:Int) (b:0≤v∧v≤65535) (c:0≤low∧low≤1000) (d:0≤high∧high≤1000):
 Calls prog 427 [.int .i64 v,.int .i64 low,.int .i64 high].toArray w (ca (λi: (Int × Int) × Bool=> .tuple #[.agg [.int .i64 i.1.1,.int .i64 i.1.2].toArray,.bool i.2]) (λ_=>True) w):=by
 refine (ct.Tl w v low high b c d).mono ?_;rintro e w' ⟨rfl,a⟩;unfold ct.pd;split
 exact ca.of ((1,v - low),true) a1 rfl a;split
 exact ca.of ((1,v - high+8),true) a1 rfl a;exact ca.of ((0,0),decide (v=low+9)) a1 rfl a
theorem TQ (w:World) (di fn an aM fl v:Int) (e:0≤v∧v≤65535):Calls prog 398 [.agg [.int .i64 di,.int .i64 fn,.int .i64 an,.int .i64 aM,.int .i64 fl].toArray,.int .i64 v].toArray w (Ix w):=by
 refine aV func398 ntmps398 ?_;refine ah ?_;intro C D E;refine ar ?_;intro F G H;refine aJ ?_;refine aj (λt=>?_) (λt=>?_);refine aJ ?_;intro d b;exact ca.of ⟨_,_,_,_,_⟩ a1 rfl b.ext;refine aJ ?_;refine aj (λaH=>?_) (λaH=>?_);refine ah ?_;refine Tx rfl rfl rfl (λI=>?_);refine Id rfl rfl rfl (λJ=>?_);refine ay ?_;refine bF [0,1,2,5] 3 [[(3,false,[4]),(6,false,[7,8]),(9,true,[])]] ?_;refine al ?_;refine ao rfl FB rfl (λa c=>ct.H8 a _) ?_;refine ar ?_;refine aL rfl (λf g=>(BG rfl rfl rfl aG)) ?_;refine aq ?_;refine ao rfl FC rfl (λa c=>ct.H9 a _) ?_;refine ar ?_;refine aL rfl (λf g=>(BH rfl rfl rfl aG)) ?_;refine bx ?_;refine a6 (l0:=[]) aA.nil rfl sJ rfl (λa c=>tE a _ _ _ e aZ aZ) (λ⟨⟨u,x⟩,y⟩ _=>?_);refine aS ?_;intro z A B;refine aJ ?_;refine b1 rfl (λh=>?_) (λh=>?_);simp only[bZ] at h
 refine aQ ?_;refine a6 (l0:=[]) aA.nil rfl sJ rfl (λa c=>tE a _ _ _ e aZ aZ) (λ⟨⟨i,j⟩,k⟩ _=>?_);refine aS ?_;intro l m n;refine aJ ?_;refine b1 rfl (λo=>?_) (λo=>?_);simp only[bZ] at o
 refine b7 ?_;intro d b;exact ca.of ⟨_,_,_,_,_⟩ a1 rfl b.ext;simp only[bZ] at o
 refine aQ ?_;intro d b;exact ca.of ⟨_,_,_,_,_⟩ a1 rfl b.ext;simp only[bZ] at h
 refine al ?_;refine a6 (l0:=[]) aA.nil rfl sJ rfl (λa c=>tE a _ _ _ e aZ aZ) (λ⟨⟨i,j⟩,k⟩ _=>?_);refine aS ?_;intro l m n;refine aJ ?_;refine b1 rfl (λp=>?_) (λp=>?_);simp only[bZ] at p
 refine b7 ?_;intro d b;exact ca.of ⟨_,_,_,_,_⟩ a1 rfl b.ext;simp only[bZ] at p
 refine aQ ?_;intro d b;exact ca.of ⟨_,_,_,_,_⟩ a1 rfl b.ext;refine ah ?_;refine bF [0,1,2,5] 3 [[(3,false,[4]),(6,false,[7,8]),(9,true,[])]] ?_;refine al ?_;refine ao rfl FB rfl (λa c=>ct.H8 a _) ?_;refine ar ?_;refine aL rfl (λf g=>(BG rfl rfl rfl aG)) ?_;refine aq ?_;refine ao rfl FC rfl (λa c=>ct.H9 a _) ?_;refine ar ?_;refine aL rfl (λf g=>(BH rfl rfl rfl aG)) ?_;refine bx ?_;refine a6 (l0:=[]) aA.nil rfl sJ rfl (λa c=>tE a _ _ _ e aZ aZ) (λ⟨⟨u,x⟩,y⟩ _=>?_);refine aS ?_;intro z A B;refine aJ ?_;refine b1 rfl (λq=>?_) (λq=>?_);simp only[bZ] at q
 refine aQ ?_;refine a6 (l0:=[]) aA.nil rfl sJ rfl (λa c=>tE a _ _ _ e aZ aZ) (λ⟨⟨i,j⟩,k⟩ _=>?_);refine aS ?_;intro l m n;refine aJ ?_;refine b1 rfl (λr=>?_) (λr=>?_);simp only[bZ] at r
 refine b7 ?_;intro d b;exact ca.of ⟨_,_,_,_,_⟩ a1 rfl b.ext;simp only[bZ] at r
 refine aQ ?_;intro d b;exact ca.of ⟨_,_,_,_,_⟩ a1 rfl b.ext;simp only[bZ] at q
 refine al ?_;refine a6 (l0:=[]) aA.nil rfl sJ rfl (λa c=>tE a _ _ _ e aZ aZ) (λ⟨⟨i,j⟩,k⟩ _=>?_);refine aS ?_;intro l m n;refine aJ ?_;refine b1 rfl (λs=>?_) (λs=>?_);simp only[bZ] at s
 refine b7 ?_;intro d b;exact ca.of ⟨_,_,_,_,_⟩ a1 rfl b.ext;simp only[bZ] at s
 refine aQ ?_;intro d b;exact ca.of ⟨_,_,_,_,_⟩ a1 rfl b.ext
theorem TR (w:World) (F:Nat→Prop) (A:Option Addr) (n c:Nat) (gs:List (List Int)) (f:ct.d9 w F A n c gs) (b:ct.mY gs) (a0:ct.iV):
 Calls prog 337 [ct.tw a0,.slice A n c].toArray w (Ix w):=by
 have Zz:=f.len
 have ZA:=b.1
 refine aV func337 ntmps337 ?_;refine ah ?_;intro x ZB ZC;refine ar ?_;intro y ZD ZE;refine aJ ?_;refine b2 (ι:=Nat × ct.iV) (λt=>[(1,.slice A n c),(2,.pointer (some ⟨x,0,none⟩)),(4,.pointer (some ⟨y,0,none⟩)),(5,.int .i64 (t.1 :Int))]) (λt=>af w [] [aD y [.int .i64 0,.int .i64 0,.int .i64 0,.int .i64 0,.int .i64 0] 125,aD x [.int .i64 t.2.di,.int .i64 t.2.fn,.int .i64 t.2.an,.int .i64 t.2.aM,.int .i64 t.2.fl] 125]) (λt=>t.1≤n) (λt=>n - t.1) ?_ ?_;exact λw' E=>⟨(0,a0),bP _,(cj rfl rfl rfl rfl),E⟩
 rintro⟨i,a⟩ hi;obtain⟨di,fn,an,aM,fl⟩:=a;dsimp only at hi ⊢
 refine aJ ?_;refine aj (λG=>?_) (λG=>?_);have B:i<gs.length:=by omega
 obtain⟨g,C⟩ : ∃g,gs[i]? = some g:=⟨gs[i]'B,bE _⟩;obtain⟨bY,X,p,q,j,_,k,l⟩:=f.at_ C;have ai:=l.len
 have ZF:=(b.2 g (da C)).2.1
 have H:=ct.Tj b i
 have o:=ct.Tr B
 refine aK ?_;refine ao rfl Am rfl (λd b=>ct.BD d _ _ _ _ gs (f.ext b.ext av) ‹ct.mY gs› i aa) ?_;refine cF ?_;refine aj (λI=>?_) (λI=>?_);refine bF [0,1,2,3,4,5,6] 2 [[(7,false,[8,9]),(10,true,[])]] ?_;refine aq ?_;refine aL rfl (λv s=>(BH rfl rfl rfl aG)) ?_;refine aq ?_;refine aL rfl (λv s=>(bC (q:=i) kv rfl rfl rfl j rfl aa aG)) ?_;refine aL rfl (λv s=>(a_ im rfl rfl (λu J=>by subst J;exact s.cu k (by simp[aB])) aG)) ?_;refine aq ?_;refine ao rfl Pp rfl (λd b=>ct.Tk d _ _ _ _ g (l.ext b.ext av) aa) ?_;refine ar ?_;refine aL rfl (λv s=>(BG rfl rfl rfl aG)) ?_;refine cF ?_;exact bi (i+1,⟨_,_,_,_,_⟩) bm bm (cj rfl rfl rfl rfl) (λ_ h=>h.ax ae);refine aC ?_;refine aj (λaH=>?_) (λaH=>?_);have D:=aH
 refine aq ?_;refine eE rfl ((bX D)) ?_;refine aS ?_;intro K L M;refine aJ ?_;refine bC (q:=i) kv rfl rfl rfl j rfl aa ?_;refine a_ im rfl rfl (λu e=>e.cu k av) ?_;refine aS ?_;refine aj (λN=>?_) (λN=>?_);refine ah ?_;refine bC (q:=i) kv rfl rfl rfl j rfl aa ?_;refine a_ im rfl rfl (λu e=>e.cu k av) ?_;refine ao rfl Fw rfl (λd b=>ct.H_ d _ _ _ _ g (l.ext b.ext av) aa aa) ?_;refine bx ?_;refine aW 64 rfl (λO=>?_) (λO=>?_);refine aC ?_;refine aj (λP=>?_) (λP=>?_);refine aQ ?_;refine aW 71 rfl (λQ=>?_) (λQ=>?_);refine aC ?_;refine aj (λR=>?_) (λR=>?_);refine bH ?_
 (exfalso;omega)
 refine aJ ?_;exact bi (i+1,⟨_,_,_,_,_⟩) bm bm (cj rfl rfl rfl rfl) (λ_ h=>h.ax ae);refine cF ?_;exact bi (i+1,⟨_,_,_,_,_⟩) bm bm (cj rfl rfl rfl rfl) (λ_ h=>h.ax ae);refine al ?_;refine aW 71 rfl (λS=>?_) (λS=>?_);refine aC ?_;refine aj (λT=>?_) (λT=>?_);refine bH ?_
 (exfalso;omega)
 refine aJ ?_
 (exfalso;omega)
 refine cF ?_
 (exfalso;omega)
 refine bx ?_;refine aW 71 rfl (λU=>?_) (λU=>?_);refine aC ?_;refine aj (λV=>?_) (λV=>?_);refine bH ?_
 (exfalso;omega)
 refine aJ ?_;exact bi (i+1,⟨_,_,_,_,_⟩) bm bm (cj rfl rfl rfl rfl) (λ_ h=>h.ax ae);refine cF ?_;exact bi (i+1,⟨_,_,_,_,_⟩) bm bm (cj rfl rfl rfl rfl) (λ_ h=>h.ax ae);refine aJ ?_;refine ao rfl Fx rfl (λd b=>ct.Ia d _ _ _ _ gs (f.ext b.ext av) ‹ct.mY gs› i aa) ?_;generalize ct.m7 gs i=r at o ⊢
 obtain⟨W,m⟩:=r;dsimp only at o ⊢
 refine bx ?_;refine hk (r:=((i+m:Nat):Int)) rfl rfl rfl (by rw[←Int.natCast_add];exact wrap64 aa aa) ?_;refine aK ?_;refine aW 64 rfl (λY=>?_) (λY=>?_);refine aC ?_;refine aj (λZ=>?_) (λZ=>?_);refine aQ ?_;refine aW 71 rfl (λZa=>?_) (λZa=>?_);refine aC ?_;refine aj (λZb=>?_) (λZb=>?_);refine bH ?_
 (exfalso;omega)
 refine aJ ?_;exact bi (i+m+1,⟨_,_,_,_,_⟩) bm bm (cj rfl rfl rfl rfl) (λ_ h=>h.ax ae);refine cF ?_;exact bi (i+m+1,⟨_,_,_,_,_⟩) bm bm (cj rfl rfl rfl rfl) (λ_ h=>h.ax ae);refine al ?_;refine aW 71 rfl (λZc=>?_) (λZc=>?_);refine aC ?_;refine aj (λZd=>?_) (λZd=>?_);refine bH ?_
 (exfalso;omega)
 refine aJ ?_
 (exfalso;omega)
 refine cF ?_
 (exfalso;omega)
 refine bx ?_;refine aW 71 rfl (λZe=>?_) (λZe=>?_);refine aC ?_;refine aj (λZf=>?_) (λZf=>?_);refine bH ?_
 (exfalso;omega)
 refine aJ ?_;exact bi (i+m+1,⟨_,_,_,_,_⟩) bm bm (cj rfl rfl rfl rfl) (λ_ h=>h.ax ae);refine cF ?_;exact bi (i+m+1,⟨_,_,_,_,_⟩) bm bm (cj rfl rfl rfl rfl) (λ_ h=>h.ax ae);have D:=aH
 refine ay ?_;refine aj (λZg=>?_) (λZg=>?_);refine aS ?_;intro K L M;refine aJ ?_;refine bC (q:=i) kv rfl rfl rfl j rfl aa ?_;refine a_ im rfl rfl (λu e=>e.cu k av) ?_;refine aS ?_;refine aj (λZh=>?_) (λZh=>?_);refine ah ?_;refine bC (q:=i) kv rfl rfl rfl j rfl aa ?_;refine a_ im rfl rfl (λu e=>e.cu k av) ?_;refine ao rfl Fw rfl (λd b=>ct.H_ d _ _ _ _ g (l.ext b.ext av) aa aa) ?_;refine bx ?_;refine aW 64 rfl (λZi=>?_) (λZi=>?_);refine aC ?_;refine aj (λZj=>?_) (λZj=>?_);refine aQ ?_;refine aW 71 rfl (λZk=>?_) (λZk=>?_);refine aC ?_;refine aj (λZl=>?_) (λZl=>?_);refine bH ?_
 (exfalso;omega)
 refine aJ ?_
 (exfalso;omega)
 refine cF ?_
 (exfalso;omega)
 refine al ?_;refine aW 71 rfl (λZm=>?_) (λZm=>?_);refine aC ?_;refine aj (λZn=>?_) (λZn=>?_);refine bH ?_;exact bi (i+1,⟨_,_,_,_,_⟩) bm bm (cj rfl rfl rfl rfl) (λ_ h=>h.ax ae);refine aJ ?_
 (exfalso;omega)
 refine cF ?_;exact bi (i+1,⟨_,_,_,_,_⟩) bm bm (cj rfl rfl rfl rfl) (λ_ h=>h.ax ae);refine bx ?_;refine aW 71 rfl (λZo=>?_) (λZo=>?_);refine aC ?_;refine aj (λZp=>?_) (λZp=>?_);refine bH ?_;exact bi (i+1,⟨_,_,_,_,_⟩) bm bm (cj rfl rfl rfl rfl) (λ_ h=>h.ax ae);refine aJ ?_
 (exfalso;omega)
 refine cF ?_;exact bi (i+1,⟨_,_,_,_,_⟩) bm bm (cj rfl rfl rfl rfl) (λ_ h=>h.ax ae);refine aJ ?_;refine ao rfl Fx rfl (λd b=>ct.Ia d _ _ _ _ gs (f.ext b.ext av) ‹ct.mY gs› i aa) ?_;generalize ct.m7 gs i=r at o ⊢
 obtain⟨W,m⟩:=r;dsimp only at o ⊢
 refine bx ?_;refine hk (r:=((i+m:Nat):Int)) rfl rfl rfl (by rw[←Int.natCast_add];exact wrap64 aa aa) ?_;refine aK ?_;refine aW 64 rfl (λZq=>?_) (λZq=>?_);refine aC ?_;refine aj (λZr=>?_) (λZr=>?_);refine aQ ?_;refine aW 71 rfl (λZs=>?_) (λZs=>?_);refine aC ?_;refine aj (λZt=>?_) (λZt=>?_);refine bH ?_
 (exfalso;omega)
 refine aJ ?_
 (exfalso;omega)
 refine cF ?_
 (exfalso;omega)
 refine al ?_;refine aW 71 rfl (λZu=>?_) (λZu=>?_);refine aC ?_;refine aj (λZv=>?_) (λZv=>?_);refine bH ?_;exact bi (i+m+1,⟨_,_,_,_,_⟩) bm bm (cj rfl rfl rfl rfl) (λ_ h=>h.ax ae);refine aJ ?_
 (exfalso;omega)
 refine cF ?_;exact bi (i+m+1,⟨_,_,_,_,_⟩) bm bm (cj rfl rfl rfl rfl) (λ_ h=>h.ax ae);refine bx ?_;refine aW 71 rfl (λZw=>?_) (λZw=>?_);refine aC ?_;refine aj (λZx=>?_) (λZx=>?_);refine bH ?_;exact bi (i+m+1,⟨_,_,_,_,_⟩) bm bm (cj rfl rfl rfl rfl) (λ_ h=>h.ax ae);refine aJ ?_
 (exfalso;omega)
 refine cF ?_;exact bi (i+m+1,⟨_,_,_,_,_⟩) bm bm (cj rfl rfl rfl rfl) (λ_ h=>h.ax ae);refine ah ?_;refine a6 (l0:=[]) aA.nil rfl Pq rfl (λd b=>TQ d di fn an aM fl _ H) (λz _=>?_);refine aQ ?_;exact bi (i+1,⟨z.di,z.fn,z.an,z.aM,z.fl⟩) bm bm bR (λ_ h=>h.ax ae);refine bH ?_;intro ZG Zy;exact ca.of ⟨_,_,_,_,_⟩ a1 rfl Zy.ext
theorem Iy (gs:List (List Int)):ct.mY (ct.fy gs):=by
 refine⟨ct.BB gs,λg b=>?_⟩;have c:=ct.Tg gs g b
 refine⟨c.1,c.2,λx a=>?_⟩;have d: ∀n:Int,-1≤ct.nU n∧ct.nU n≤65535:=λn=>by unfold ct.nU;omega
 have e: ∀g:List Int,∀x∈ct.kc g,-1≤x∧x≤65535:=λg x a=>by
  unfold ct.kc at a
  split at a
  simp at a;omega
  obtain⟨y,_,rfl⟩:=dH.1 a;exact d y
 unfold ct.fy at b
 split at b
 simp only[eb] at b
 subst b;simp only[eb] at a
 omega
 obtain⟨y,_,rfl⟩:=dH.1 b;exact e y x a
theorem TS (w:World) (F:Nat→Prop) (A:Option Addr) (n c:Nat) (gs:List (List Int)) (b:ct.d9 w F A n c gs) (p:gs.length≤1000000) (d: ∀g∈gs,g.length≤1000000):
 Calls prog 234 [.slice A n c].toArray w (fi (λi:kQ=>i.val) kQ.aF (λi=>ct.mY i.gs∧pf i) w):=by
 refine (ct.BC w F A n c gs b (by have:=b.len;omega) d).mono ?_;rintro e w' ⟨f,h,c',rfl,j,l⟩;have a:=Iy gs
 refine⟨⟨f,h,c',w.heap.size,w'.heap.size,ct.fy gs⟩,⟨a,⟨by have:=a.1;show (ct.fy gs).length≤1000;omega,λg m=>by have:=(a.2 g m).2.1;omega⟩⟩,rfl,j,⟨λ_=>bW _,l.hI⟩,λk o=>(ot.1 o).1,yk _ _ _ _⟩
structure B3 (w:World) (S:List Nat) (A:Option Addr) (n c:Nat) (gs:List (List Int)):Prop where
 rd:ct.d9 w (λk=>k∉S) A n c gs
 n:gs.length≤1000
 g: ∀g∈gs,g.length≤1000
theorem B3.vI {w:World} {S:List Nat} {A:Option Addr} {n c:Nat} {gs:List (List Int)} (h:B3 w S A n c gs): ∀g∈gs,g.length≤1000000:=λg a=>by have:=h.g g a;omega
abbrev B4 (s:bl) (di fn an aM fl:Int):bl:={ s with bg:={ s.bg with at_:=⟨di,fn,an,aM,fl⟩ } }
theorem TT (s:bl) (di fn an aM fl:Int):df (eZ s) (0+0+0) [.int .i64 di,.int .i64 fn,.int .i64 an,.int .i64 aM,.int .i64 fl]=eZ (B4 s di fn an aM fl):=by
 simp only[df,eZ,B4,dE,Nat.reduceAdd,qM,mE]
theorem TU (w:World) (s:bl) (f:a8 w (aO s)) (a:dR s) (A:Option Addr) (n c:Nat) (gs:List (List Int)) (b:B3 w (aB (aO s)) A n c gs):
 Calls prog 255 [ptr s.g,.slice A n c].toArray w (dY 0 s (.tuple #[]) w):=by
 refine bI func255 ntmps255 f ?_;refine aC ?_;refine bF [0,1,2,3,4,5,6] 3 [[(7,false,[]),(8,false,[9,10,11]),(12,true,[])]] ?_;refine ay ?_;refine aL rfl (λp i=>(cx (vs:=[.int .i64 s.bg.at_.di,.int .i64 s.bg.at_.fn,.int .i64 s.bg.at_.an,.int .i64 s.bg.at_.aM,.int .i64 s.bg.at_.fl]) sw rfl rfl rfl (λq k j u l=>by subst k;exact i.k6 (sz:=5) (xs:=eZ s) aT rfl j u l) aG)) ?_;refine ah ?_;refine gp rfl Ab rfl (λd e=>TS d _ A n c gs (b.rd.ext e.ext (λ_ h=>h)) (by have:=b.n;omega) b.vI) (λz m=>?_);refine b3 (λ_=>True) (λ_ h=> .inr (h.rem bw.head)) (λ_ h=>a1) ?_;refine aq ?_;refine a6 (l0:=[]) aA.nil rfl OV rfl (λd e=>TR d _ _ _ _ z.gs (e.has (c:=z.aF) aT).2 m.1 ⟨s.bg.at_.di,s.bg.at_.fn,s.bg.at_.an,s.bg.at_.aM,s.bg.at_.fl⟩) (λ⟨di,fn,an,aM,fl⟩ _=>?_);refine b3 (λ_=>True) (λ_ h=> .inr ⟨.inr (h.rem bw.head),dp⟩) (λ_ h=>a1) ?_;refine ay ?_;refine e3 sw rfl rfl (by (rw[TT];exact bn.tail bn.head)) rfl (PN rfl rfl rfl rfl rfl) (by exact dV rfl) ?_;refine aS ?_;intro t o;exact aN (B4 s di fn an aM fl) ⟨rfl,rfl,rfl,⟨a.r,a.st,a.n⟩,tm s.abs _⟩ o
theorem TV (w:World) (s o:bl) (J:a8 w (aO s)) (i:dR s) (D:c7 s.ap.abs) (m:o.an.pred w) (E:o.ap.an.pred w) (F:2≤o.ap.cols∧o.ap.cols≤1000) (p:o.g∉aB (aO s)) (G:o.ap.g∉aB (aO s)):
 Calls prog 388 [ptr s.g,ptr o.g].toArray w (dY 0 s (.tuple #[]) w):=by
 have K:nX prog 50 132 s.bg.enc o.bg.enc=true:=by kernel_rfl
 obtain⟨r,H⟩:=BJ 50 _ _ _ K 9950;have I: ∀v,ho prog 132 v= .agg v.toArray:=λv=>by
  have x:jB prog 132=true:=by kernel_rfl
  simp[ho,x]
 rw[I,I] at H
 refine calls (n:=34) func388 rfl ntmps388 rfl ?_;refine cH (H':=af w (aB (aO s)) (aO s)) ?_ (Sub.refl _) J.start;refine k2 (k2 (ni ?_));refine ig rfl rfl ?_;refine xj underlying64 rfl rfl rfl ?_;refine ig rfl rfl ?_;refine cC rfl rfl rfl ?_;refine ig rfl rfl ?_;refine cC rfl rfl rfl ?_;refine xj underlying64 rfl rfl rfl ?_;refine kt rfl rfl rfl rfl ?_;refine sj (mG ?_);refine fA rfl (rfl) ?_;refine zh (mG (k2 (k2 ?_)));refine eF [0,1,2,3,4,5,6,7,8] 0 [[]] (_) mixed ab (λ_ e=>e.drew) (λ_ h=>h) ?_;refine aL rfl (λd c=>(ig rfl rfl aG)) ?_;refine aL rfl (λd c=>(nA rfl rfl aG)) ?_;refine aL rfl (λd c=>(nk wT rfl rfl aG)) ?_;refine aL rfl (λd c=>(cx (vs:=s.bg.enc) q4 rfl rfl rfl (λt k j u q=>by subst k;exact c.k6 (sz:=14) (xs:=eZ s) aT rfl j u q) aG)) ?_;refine aL rfl (λd c=>(ig rfl rfl aG)) ?_;refine aL rfl (λd c=>(nA rfl rfl aG)) ?_;refine aL rfl (λd c=>(nk wT rfl rfl aG)) ?_;refine aL rfl (λd c=>(cx (vs:=o.bg.enc) q4 rfl rfl rfl (λt k j u q=>by subst k;exact c.jJ (sz:=14) (xs:=eZ o) m p rfl j u q) aG)) ?_;refine aL rfl (λd c=>(Ty Ms rfl rfl rfl H aG)) ?_;refine pW ?_;refine xd (mG ?_);refine b1 rfl (λA=>?_) (λA=>?_);simp only[pz,Bool.not_eq_false',e2,e9] at A
 refine ni ?_;refine ig rfl rfl ?_;refine ig rfl rfl ?_;refine nA rfl rfl ?_;refine nk wT rfl rfl ?_;refine cx (vs:=o.bg.enc) q4 rfl rfl rfl (λt x j u q=>x.jJ (sz:=14) (xs:=eZ o) m p rfl j u q) ?_;refine nA rfl rfl ?_;refine nk wT rfl rfl ?_;refine e3 q4 rfl rfl (by rw[H0];exact bn.head) rfl (aI.cons rfl (aI.cons rfl (aI.cons rfl (aI.cons rfl (gg rfl rfl rfl rfl rfl rfl rfl rfl rfl rfl))))) (by exact dV rfl) ?_;refine sj (mG ?_);refine eF [0,1,2,3,4,5] 2 [[(6,false,[]),(7,true,[])]] (_) mixed ab (λ_ e=>e.drew) (λ_ h=>h) ?_;refine aL rfl (λd c=>(ig rfl rfl aG)) ?_;refine aL rfl (λd c=>(ig rfl rfl aG)) ?_;refine aL rfl (λd c=>(nA rfl rfl aG)) ?_;refine aL rfl (λd c=>(nk Ef rfl rfl aG)) ?_;refine aL rfl (λd c=>(a_ bN rfl rfl (λt k=>by subst k;exact c.bU (xs:=eZ o) m p rfl) aG)) ?_;refine aL rfl (λd c=>(ig rfl rfl aG)) ?_;refine pW ?_;refine sK [_] rfl (qI.2 ⟨?_,by simp⟩);refine ao rfl jg rfl (λl f=>jq l o (f.dF m (by simpa [aD] using p)) (f.dF E (by simpa [aD] using G)) F) ?_;refine b3 (λ_=>True) (λ_ h=> .inr h) (λ_ h=>a1) ?_;refine pW ?_;refine sK [_] rfl (qI.2 ⟨?_,by simp⟩);refine a6 (l0:=aO { s with bg:=o.bg }) (aA.cons bj (aA.cons bj (aA.cons bj (aA.cons bj (aA.cons bj (aA.cons bj (aA.cons bj aA.nil))))))) rfl E3 rfl (λl f=>x8 l { s with bg:=o.bg } (f.bo (aA.cons bj (aA.cons bj (aA.cons bj (aA.cons bj (aA.cons bj (aA.cons bj (aA.cons bj aA.nil)))))))) ⟨i.r,i.st,i.n⟩ D o.y _) (λB C=>?_);refine b3 (λ_=>True) (λ_ _=> .inl rfl) (λ_ h=>a1) ?_;refine pW ?_;refine xd ?_;refine zi results388 (λL e=>?_);exact aP.bQ B ((gm.trans (a:=0) (b:=0) (z:={ s with bg:=o.bg }) ⟨rfl,rfl,rfl,⟨i.r,i.st,i.n⟩,tm s.abs _⟩ (C.hd (x7 _ _ _)))) rfl (e.ax (aA.cons bj (aA.cons bj (aA.cons bj (aA.cons bj (aA.cons bj (aA.cons bj (aA.cons bj aA.nil))))))));simp only[pz,Bool.not_eq_false',e2,e9] at A
 refine zh (mG ?_);refine eF [0,1,2,3,4,5] 2 [[(6,false,[]),(7,true,[])]] (_) mixed ab (λ_ e=>e.drew) (λ_ h=>h) ?_;refine aL rfl (λd c=>(ig rfl rfl aG)) ?_;refine aL rfl (λd c=>(ig rfl rfl aG)) ?_;refine aL rfl (λd c=>(nA rfl rfl aG)) ?_;refine aL rfl (λd c=>(nk Ef rfl rfl aG)) ?_;refine aL rfl (λd c=>(a_ bN rfl rfl (λt k=>by subst k;exact c.bU (xs:=eZ o) m p rfl) aG)) ?_;refine aL rfl (λd c=>(ig rfl rfl aG)) ?_;refine pW ?_;refine sK [_] rfl (qI.2 ⟨?_,by simp⟩);refine ao rfl jg rfl (λl f=>jq l o (f.dF m (by simpa [aD] using p)) (f.dF E (by simpa [aD] using G)) F) ?_;refine b3 (λ_=>True) (λ_ h=> .inr h) (λ_ h=>a1) ?_;refine pW ?_;refine sK [_] rfl (qI.2 ⟨?_,by simp⟩);refine a6 (l0:=aO s) (aA.cons bj (aA.cons bj (aA.cons bj (aA.cons bj (aA.cons bj (aA.cons bj (aA.cons bj aA.nil))))))) rfl E3 rfl (λl f=>x8 l s (f.bo (aA.cons bj (aA.cons bj (aA.cons bj (aA.cons bj (aA.cons bj (aA.cons bj (aA.cons bj aA.nil)))))))) i D o.y _) (λB C=>?_);refine b3 (λ_=>True) (λ_ _=> .inl rfl) (λ_ h=>a1) ?_;refine pW ?_;refine xd ?_;refine zi results388 (λL e=>?_);exact aP.bQ B (C.hd (x7 _ _ _)) rfl (e.ax (aA.cons bj (aA.cons bj (aA.cons bj (aA.cons bj (aA.cons bj (aA.cons bj (aA.cons bj aA.nil))))))))
theorem af.yq {b w:World} {S:List Nat} {cs:List Chunk} {l:List bS} {g:bS} (h:af b S (aR (l.map bS.aF)::g.aF::cs) w):af b S (aR ((l++[g]).map bS.aF)::cs) w:=by
 have a:af b S (aR [g.aF]::aR (l.map bS.aF)::cs) w:=(h.perm (List.Perm.swap _ _ _)).close (l:=[g.aF]) ae
 rw[fQ];exact (a.perm (List.Perm.swap _ _ _)).BU
theorem af.tF {b w:World} {S:List Nat} {cs:List Chunk} (h:af b S cs w):af b S (aR ([].map bS.aF)::cs) w:=h.nj (λc a=>by simp at a) rfl
theorem TW (w:World) (n:Int) (f:0≤n∧n≤100000):Calls prog 151 [.int .i64 n].toArray w
 (aP (λg:Nat=> .tuple #[ptr g,.int .i64 0]) [] (λg=>cc ⟨g,⟨none,0,[]⟩,n,0,0,0⟩) (λ_=>True) w):=by
 refine aV func151 ntmps151 ?_;refine bx ?_;refine aW 6 rfl (λa=>?_) (λa=>?_);have d:=aX a
 refine cF ?_;intro c b
 (exfalso;omega)
 have d:=bd a
 refine aC ?_;refine aj (λaH=>?_) (λaH=>?_);refine aJ ?_;intro c b
 (exfalso;omega)
 refine aC ?_;intro e h i;refine al ?_;intro c b;exact aP.bQ e a1 rfl (((b.eU 144 cl).tF).ax ae)
theorem yr (w:World) (r c:Int):Calls prog 152 [.int .i64 r,.int .i64 c].toArray w (Pure (.bool (decide ((1≤r∧r≤1000)∧2≤c∧c≤1000))) w):=by
 refine aV func152 ntmps152 ?_;refine aQ ?_;refine aW 7 rfl (λb=>?_) (λb=>?_);have f:=aX b
 refine al ?_;refine aW 11 rfl (λaH=>?_) (λaH=>?_);have g:=aX aH
 refine al ?_;refine aW 15 rfl (λd=>?_) (λd=>?_);have h:=aX d
 refine aQ ?_;intro e a;exact⟨by rw[Ending.returned.injEq,Value.bool.injEq];symm;(rw[gQ];omega),a.ext⟩;have h:=bd d
 refine aK ?_;intro e a;exact⟨by rw[Ending.returned.injEq,Value.bool.injEq];symm;(rw[e2];omega),a.ext⟩;have g:=bd aH
 refine bx ?_;intro e a;exact⟨by rw[Ending.returned.injEq,Value.bool.injEq];symm;(rw[e2];omega),a.ext⟩;have f:=bd b
 refine dB ?_;intro e a;exact⟨by rw[Ending.returned.injEq,Value.bool.injEq];symm;(rw[e2];omega),a.ext⟩
theorem TX (w:World) (p:bq) (a:a8 w (bB p)):Calls prog 188 [ptr p.g].toArray w
 (aP (λ_:Unit=>p.bf.val) (bB p) (λ_=>bB { p with bf:=⟨none,0,[]⟩ }++[p.bf.au]) (λ_=>True) w):=by
 refine bI func188 ntmps188 a ?_;refine PX ?_;intro c b;exact aP.bQ () a1 rfl ((b.eU 180 j3).ax ae)
theorem TY (w:World) (r:dj) (a:r.an.pred w) (i k:Int) (hi:0≤i∧i≤1000000) (b:0≤r.first∧r.first≤1000000) (c: (r.s.l.length:Int)≤1000000) (d:eB r i=k):Calls prog 98 [ptr r.g,.int .i64 i].toArray w (Pure (.int .i64 k) w):=by
 subst d;exact xE w r a i hi b c
theorem B5 {w:World} {l:List bS} {g:bS} (h: (aR (l.map bS.aF)).pred w) (a:g∈l):Rd bK w (λ_=>True) g.A g.cells.length g.c g.cells:=
 hv (e:=215) (E:=bK) (h g.aF (dH.2 ⟨g,a,rfl⟩))
theorem TZ (w:World) (r:dj) (p:a8 w (cc r)) (a:cX r) (y: ∀x∈r.rows,x.1.length≤1000000):Calls prog 57 [ptr r.g].toArray w
 (aP (λz:de=>z.val) (cc r) (λz=>cc r++[z.au,z.b9]) (λz=>b5 z.l=r.rows) w):=by
 have A:=a.n
 have K:=a.len
 have M:=a.room
 have N:=a.first
 refine calls (n:=25) func57 rfl ntmps57 rfl ?_;refine cH (H':=af w (aB (cc r)) (cc r++[de.au ⟨none,0,[]⟩,de.b9 ⟨none,0,[]⟩])) ?_ (Sub.refl _) (λx o=>(((p.start x o).eU 144 cl).tF).ax ae);refine b7 ?_;refine ao rfl zT rfl (λb d=>AU b r (d.has aT)) ?_;refine aS ?_;refine b2 (ι:=Nat × de) (λi=>[(0,ptr r.g),(3,i.2.val),(6,.int .i64 r.n),(7,.int .i64 (i.1 :Int))]) (λi=>af w (aB (cc r)) (cc r++[i.2.au,i.2.b9])) (λi=>(i.1 :Int)≤r.n∧b5 i.2.l=r.rows.take i.1) (λi=>r.n.toNat - i.1) ?_ ?_;exact λw' B=>⟨(0,⟨none,0,[]⟩),⟨A.1,rfl⟩,(cj rfl rfl rfl rfl),B⟩
 rintro⟨i,z⟩ ⟨hi,f⟩;dsimp only at hi f ⊢
 have O:z.l.length=i:=by
  have:=aU List.length f
  rw[cB,dl,ll] at this
  omega
 refine al ?_;refine aj (λC=>?_) (λC=>?_);have P:=p_ a (i:=i) aa aa
 obtain⟨g,e⟩ : ∃g,r.s.l[(eB r i).toNat]? = some g:=⟨r.s.l[(eB r i).toNat]'aa,bE _⟩;obtain⟨k,m⟩ : ∃k:Nat,eB r i=k:=⟨(eB r i).toNat,aa⟩;rw[m,fV] at e
 obtain⟨gs,t⟩:=rm (p.all r.s.au av) aa;have D:=da e
 have Q:g.cells.length≤1000000:=y g.fw (da (i:=i) (by rw[qb,aw aa,qa,m,fV,e];rfl))
 refine aQ ?_;refine bF [0,1,2,3,4,5,6] 4 [[(7,false,[8,9]),(10,false,[]),(11,false,[]),(12,true,[13])]] ?_;refine aJ ?_;refine ao rfl wY rfl (λb d=>TY b r (d.has aT) (i:Int) (k:Int) aa aa aa m) ?_;refine b3 (_) (λ_ h=> .inr h) (λ_ h=>h) ?_;refine aL rfl (λF v=>(bC (q:=k) dK rfl rfl rfl t rfl aa aG)) ?_;refine aL rfl (λF v=>(cx (vs:=g.enc) gV rfl rfl rfl (λR G j u H=>by subst G;exact v.gJ (E:=cl) (c:=r.s.c) (L:=r.s.l) bJ t e j u H) aG)) ?_;refine aq ?_;refine gp rfl EJ rfl (λb d=>GX b _ _ _ _ g.cells g.cont (B5 (d.has (c:=r.s.b9) cr) D) aa) (λx o=>?_);refine b3 (λ_=>True) (λ_ h=> .inr ⟨.inr (h.rem bw.head),(h.rem bw.head)⟩) (λ_ h=>a1) ?_;refine aq ?_;refine dy (E:=cl) _ dK rfl rfl rfl rfl rfl (λS T U=>?_);refine b3 (λ_=>True) (λ_ h=> .inr ⟨.inr ⟨.inr ((h.rem bw.head).rem bw.head),((h.rem bw.head).rem bw.head)⟩,dp⟩) (λ_ h=>a1) ?_;refine aq ?_;refine eC (E:=cl) dK rfl rfl rfl bj (λ_ _=>jk) b4 b4 (λV W=>?_);refine aQ ?_;have I:r.rows[i]? = some x.fw:=by rw[qb,aw aa,qa,m,fV,e,o];rfl
 refine bi (i+1,⟨_,_,z.l++[x]⟩) ⟨by dsimp only;omega,?_⟩ bm (cj rfl rfl rfl rfl) (λ_ h=>(af.yq (l:=z.l) (g:=x) (h.ax (l:=[z.b9,x.aF,r.an,r.s.au,r.s.b9,au 144 cl _ _ (z.l++[x])]) ae)).ax ae);show (z.l++[x]).map bS.fw=r.rows.take (i+1)
 rw[fQ,fR,I,←f];rfl
 refine bH ?_;intro X J;exact aN z (by rw[f,ev (by rw[ll];omega)]) J
def n0 (cols:Int):bG:=(List.replicate (lk cols) (j4 0 0),false)
theorem T0 {cols:Int} (h:2≤cols∧cols≤1000):n0 cols=rl cols 0 0:=by
 unfold n0 rl lk;rw[show (max 0 (min cols 1000)).toNat=cols.toNat by omega]
theorem B6 (w:World) (p:bq) (d:a8 w (bB p)) (n:Int) (u:n≤1000) (ai:p.s.l.length≤1000):Calls prog 153 [ptr p.g,.int .i64 n].toArray w
 (aP (λ_:de=> .tuple #[]) (bB p) (λz=>bB { p with s:=z }) (λz=>b5 z.l=b5 p.s.l++List.replicate (n.toNat - p.s.l.length) (n0 p.cols)) w):=by
 refine bI func153 ntmps153 d ?_;refine ar ?_;refine b2 (ι:=Nat × de) (λi=>[(0,ptr p.g),(1,.int .i64 n)]) (λi=>af w (aB (bB p)) (bB { p with s:=i.2 })) (λi=>b5 i.2.l=b5 p.s.l++List.replicate i.1 (n0 p.cols)∧i.2.l.length=p.s.l.length+i.1∧i.1≤n.toNat - p.s.l.length) (λi=>n.toNat - i.2.l.length) ?_ ?_;exact λw' e=>⟨(0,p.s),⟨by simp,rfl,bP _⟩,(iK rfl rfl),e⟩
 rintro⟨i,z⟩ ⟨b,f,j⟩;dsimp only at b f j ⊢
 refine bx ?_;refine aj (λa=>?_) (λa=>?_);refine ah ?_;refine eF [0,1,2,3,4,5,6] 4 [[(7,false,[]),(8,false,[]),(9,false,[10,11]),(12,true,[])]] (_) mixed ab (λ_ c=>c.drew) (λ_ h=>(show (bq.an { p with s:=z }).pred _ from h.has aT)) ?_;refine aS ?_;refine aL rfl (λv k=>(a_ wR rfl rfl (λy m=>by subst m;exact B1 k rfl) aG)) ?_;refine aS ?_;refine gp rfl Aa rfl (λo q=>A6 o { p with s:=z } (q.has aT) 0 0) (λx t=>?_);refine b3 (λ_=>True) (λ_ h=> .inr (h.has bJ)) (λ_ h=>a1) ?_;refine aq ?_;refine dy (E:=cl) _ dK rfl rfl rfl rfl rfl (λA B C=>?_);refine b3 (λ_=>True) (λ_ h=> .inr ⟨.inr (h.has cr),dp⟩) (λ_ h=>a1) ?_;refine aq ?_;refine eC (E:=cl) dK rfl rfl rfl bj (λ_ _=>nB) b4 b4 (λD F=>?_);refine b3 (λ_=>True) (λ_ h=> .inr ⟨.inr ⟨.inr (h.has bJ),dp⟩,dp⟩) (λ_ h=>a1) ?_;refine aJ ?_;refine bi (i+1,⟨_,_,z.l++[x]⟩) ⟨?_,by simp;omega,by dsimp only at a ⊢;omega⟩ (by simp only[b6,eO,lL];dsimp only at a;omega) (iK rfl rfl) (λ_ h=>(af.yq (l:=z.l) (g:=x) (h.ax (l:=[z.b9,x.aF,bq.an { p with s:=⟨_,_,z.l++[x]⟩ },aR (cc p.r),au 144 cl _ _ (z.l++[x]),p.bf.au]) ae)).ax ae);show (z.l++[x]).map bS.fw=_
 rw[fQ,List.replicate_succ',←ea,←b];show _++[x.fw]=_
 rw[t];rfl
 refine ay ?_;intro G c;exact aP.bQ z (by rw[b,show i=n.toNat - p.s.l.length by dsimp only at a;omega]) rfl c
theorem B7 (w:World) (p:bq) (q:a8 w (bB p)) (a:cX p.r) (t: ∀x∈p.r.rows,x.1.length≤1000000) (v: ∀x∈b5 p.s.l,x.1.length≤1000000) (I:p.s.l.length≤1000):Calls prog 26 [ptr p.g].toArray w
 (aP (λz:de=>z.val) (bB p) (λz=>bB p++[z.au,z.b9]) (λz=>b5 z.l=p.r.rows++b5 p.s.l) w):=by
 have J:=a.n
 have K:=a.len
 have L:=a.room
 refine bI func26 ntmps26 q ?_;refine hr ?_;refine kM (l0:=cc p.r) (cs1:=λ_=>_) (λ_=>ew) rfl M5 rfl (λd e=>TZ d p.r (e.kL bJ) a t) (λz k=>?_);refine ay ?_;refine cH (H':=af w (aB (bB p)) (bB p++[z.au,z.b9])) ?_ (Sub.refl _) (λx f=>(((f.open (l:=cc p.r++[z.au,z.b9]) cw).close (l:=cc p.r) ae).ax ae));have M:z.l.length=p.r.n.toNat:=by
  have:=aU List.length k
  rwa [cB,ll] at this
 refine aQ ?_;refine b2 (ι:=Nat × de) (λi=>[(3,i.2.val),(16,p.s.val),(17,.int .i64 (p.s.l.length:Int)),(18,.int .i64 (i.1 :Int))]) (λi=>af w (aB (bB p)) (bB p++[i.2.au,i.2.b9])) (λi=>i.1≤p.s.l.length∧b5 i.2.l=p.r.rows++(b5 p.s.l).take i.1) (λi=>p.s.l.length - i.1) ?_ ?_;exact λw' y=>⟨(0,z),⟨bP _,by simpa using k⟩,(cj rfl rfl rfl rfl),y⟩
 rintro⟨i,u⟩ ⟨hi,b⟩;dsimp only at hi b ⊢
 have N:u.l.length=p.r.n.toNat+i:=by
  have:=aU List.length b
  simp only[cB,b6,dl,ll] at this
  omega
 refine al ?_;refine aj (λB=>?_) (λB=>?_);obtain⟨g,m⟩ : ∃g,p.s.l[i]? = some g:=⟨p.s.l[i]'aa,bE _⟩;have o:=da m
 have O:g.cells.length≤1000000:=v g.fw (dH.2 ⟨g,o,rfl⟩)
 refine al ?_;refine jr (E:=cl) cr dK rfl rfl rfl bc aa (λP C=>?_);refine cx gV rfl rfl rfl (λQ D j u F=>D.gJ (E:=cl) cr C bv j u F) ?_;refine ar ?_;intro R S T;refine al ?_;refine gp rfl M6 rfl (λd e=>Rc d _ g.A g.cells.length g.c g.cells g.cont (B5 (e.has (c:=p.s.b9) hM) o) aa) (λx f=>?_);refine dy (E:=cl) _ dK rfl rfl rfl rfl rfl (λU V W=>?_);refine eC (E:=cl) dK rfl rfl rfl bj (λ_ _=>FY) b4 b4 (λX Y=>?_);refine aK ?_;have G: (b5 p.s.l)[i]? = some x.fw:=by rw[eD,m,f];rfl
 refine bi (i+1,⟨_,_,u.l++[x]⟩) ⟨by dsimp only;omega,?_⟩ bm (cj rfl rfl rfl rfl) (λ_ h=>(af.yq (l:=u.l) (g:=x) (h.ax (l:=[u.b9,x.aF,p.an,aR (cc p.r),p.s.au,p.s.b9,p.bf.au,au 144 cl _ _ (u.l++[x])]) ae)).ax ae);show (u.l++[x]).map bS.fw=p.r.rows++(b5 p.s.l).take (i+1)
 rw[fQ,fR,G,←ea,←b];rfl
 refine bH ?_;intro Z H;exact aN u (by rw[b,ev (by simp;omega)]) H
def pi (rows cols lines:Int):b0:=⟨[],lines,List.replicate rows.toNat (rl cols 0 0),cols,[]⟩
theorem T1 {rows cols lines:Int} (e:1≤rows∧rows≤1000) (a:2≤cols∧cols≤1000) (f:0≤lines∧lines≤100000):c7 (pi rows cols lines):=by
 refine⟨a,by simp only[pi,hj];omega,λr b=>?_,by simp[pi],by simp only[pi,lL];omega⟩;have:=ng b
 subst this;refine⟨by simp only[rl,hj,pi];omega,λc d=>?_⟩;have:=ng d
 subst this;simp[j4]
abbrev B8 (g:Nat) (n:Int):dj:=⟨g,⟨none,0,[]⟩,n,0,0,0⟩
abbrev ys (g h:Nat) (n cols:Int) (z:de):bq:=⟨g,B8 h n,z,cols,⟨none,0,[]⟩⟩
theorem T2 {g:Nat} {n:Int} (a:0≤n∧n≤100000):cX (B8 g n):=⟨by simp;omega,a,by simp,by simp,by simp⟩
theorem T3 (w:World) (rows cols lines:Int) (k:1≤rows∧rows≤1000) (a:2≤cols∧cols≤1000) (e:0≤lines∧lines≤100000):Calls prog 108 [.int .i64 rows,.int .i64 cols,.int .i64 lines].toArray w
 (aP (λz:bq=> .tuple #[ptr z.g,.int .i64 0]) [] bB (λz=>cX z.r∧z.abs=pi rows cols lines) w):=by
 refine aV func108 ntmps108 ?_;refine aJ ?_;refine a6 (l0:=[]) aA.nil rfl NM rfl (λb _=>TW b lines e) (λh _=>?_);refine bx ?_;refine ao rfl w2 rfl (λb a=>yr b _ _) ?_;refine aq ?_;refine aW 20 rfl (λf=>?_) (λf=>?_);refine cF ?_;intro i d;exact absurd f (by rw[bX (show (1≤rows∧rows≤1000)∧2≤cols∧cols≤1000 from ⟨k,a⟩)];decide);refine aC ?_;refine aj (λaH=>?_) (λaH=>?_);refine aJ ?_;intro i d;exact absurd rfl aH;refine aK ?_;intro c n o;refine aS ?_;refine cH (H':=af w [] (bB (ys c h lines cols ⟨none,0,[]⟩))) ?_ (Sub.refl _) (λx m=>(((((m.close (l:=cc (B8 h lines)) ae).eU 144 cl).tF).eU 180 j3).ax ae));refine ah ?_;refine a6 (l0:=bB (ys c h lines cols ⟨none,0,[]⟩)) ae rfl zZ rfl (λb a=>B6 b (ys c h lines cols ⟨none,0,[]⟩) (a.bo ae) rows aa av) (λz j=>?_);refine bp ?_;intro i d;exact aN (ys c h lines cols z) ⟨T2 e,by rw[T0 a] at j;show b0.mk [] lines (b5 z.l) cols []=_;rw[j];rfl⟩ d
def mc (rows cols lines:Int):be:=⟨ls,pi rows cols lines,0,0,0,rows - 1,rv,0,0,false,0,cN.jo [] cols.toNat⟩
theorem T4 {rows cols lines:Int} (a:1≤rows∧rows≤1000) (b:2≤cols∧cols≤1000) (c:0≤lines∧lines≤100000):dX (mc rows cols lines):=by
 have d: ((mc rows cols lines).bD.cG.length:Int)=rows:=by simp only[mc,pi,hj];omega
 have e: (mc rows cols lines).bD.cols=cols:=rfl
 refine⟨T1 a b c,?_,?_,?_⟩;show 0≤(0 :Int)∧(0 :Int)<((mc rows cols lines).bD.cG.length:Int)
 omega
 show 0≤(0 :Int)∧(0 :Int)≤cols
 omega
 show 0≤(0 :Int)∧(0 :Int)≤rows - 1∧rows - 1<((mc rows cols lines).bD.cG.length:Int)
 omega
abbrev Iz (g:Nat) (p:bq) (a n:Nat) (i:cN.fa) (rows:Int):bl:=⟨g,ls,p,⟨a,cN.jo [] n,i⟩,0,0,0,rows - 1,rv,0,0,false,0⟩
theorem qg (n:Nat): (cN.jo [] n).length=n:=by simp[cN.jo]
theorem T5 (w:World) (cols:Int) (a:2≤cols∧cols≤1000):Calls prog 109 [.int .i64 cols].toArray w (fi (λs:Nat × cN.fa=>Value.tuple #[ptr s.1,.int .i64 0]) (λs=>cN.eH s.1 (cN.jo [] cols.toNat).length s.2) (λs=>cN.hW (cN.jo [] cols.toNat) s.2) w):=by
 have h:=cN.vm w cols.toNat aa
 rw[show ((cols.toNat:Nat):Int)=cols by omega] at h
 rw[qg];exact h
set_option maxHeartbeats 1000000 in
theorem IA (w:World) (rows cols lines:Int) (e:1≤rows∧rows≤1000) (b:2≤cols∧cols≤1000) (f:0≤lines∧lines≤100000):Calls prog 68 [.int .i64 rows,.int .i64 cols,.int .i64 lines].toArray w
 (aP (λz:bl=> .tuple #[ptr z.g,.int .i64 0]) [] aO (λz=>dR z∧z.abs=mc rows cols lines) w):=by
 refine aV func68 ntmps68 ?_;refine bp ?_;refine a6 (l0:=[]) aA.nil rfl Nr rfl (λa _=>T3 a rows cols lines e b f) (λp ai=>?_);refine b7 ?_;refine aj (λc=>?_) (λc=>?_);refine aQ ?_;intro h d;exact absurd rfl c;refine ay ?_;refine gp rfl Ns rfl (λa _=>T5 a cols b) (λs i=>?_);refine aJ ?_;refine ao rfl zU rfl (λa b=>Br a) ?_;refine aS ?_;refine ks (out:=eZ (Iz 0 p s.1 cols.toNat s.2 rows)) Mu rfl rfl (by simp[hF,putAt,df,Value.cells,ls,vw,rv,gH.enc,fZ.enc]) ?_;refine ar ?_;intro j l m;refine al ?_;intro h d;exact aN (Iz j p s.1 cols.toNat s.2 rows) ⟨⟨ai.1,i,by have k:p.cols=cols:=aU b0.cols ai.2;show ((cN.jo [] cols.toNat).length:Int)=p.cols;rw[qg,k];omega⟩,by simp only[bl.abs,ai.2];rfl⟩ d
end Go.Proofs.YtlgnfdodnhokjaaGreatDoor.Mq
