/- part 36 of the proof -/
import Derived.Test.YtoghoobfpcadbaaGreatDoorQ35
import Derived.Shelf.Sort.Plain
import Derived.Shelf.Slices.In.SortNone
import Derived.Shelf.Slices.In.CompactI
import Derived.Lib.RowBridge
import Derived.WalkMore
namespace Go.Proofs.YtoghoobfpcadbaaGreatDoor.Mq
open Go Go.RowKit Go.Proofs Tryz
structure n4 where
 A:Option Addr
 c:Nat
 l:List hb
abbrev n4.val (r:n4):Value:= .slice r.A r.l.length r.c
abbrev n4.au (r:n4):Chunk:=Mq.au 244 mm r.A r.c r.l
structure m5 where
 A:Option Addr
 c:Nat
 l:List ju
abbrev m5.val (r:m5):Value:= .slice r.A r.l.length r.c
abbrev m5.au (r:m5):Chunk:=Mq.au 184 n3 r.A r.c r.l
abbrev JZ (x:ju):Value:= .agg x.enc.toArray
abbrev tP (x:ju):Prop:=(0≤x.row∧x.row≤1000000)∧0≤x.hid∧x.hid≤1000000
abbrev v8 (w:World):=cf (λb:Bool=> .bool b) (λ_=>True) w
theorem W4 (w:World) (x:ju) (r:Int) (k:tP x):Calls prog 136 [JZ x,.int .i64 r].toArray w (v8 w):=by
 refine aW func136 ntmps136 ?_;refine ah ?_;intro l m n;refine bp ?_;refine aj (λf=>?_) (λf=>?_);refine bB ?_;intro b a;exact cf.of _ aT rfl a.ext;refine aL ?_;refine aX 15 rfl (λaK=>?_) (λaK=>?_);have g:=a1 aK
 refine aL ?_;refine aX 20 rfl (λc=>?_) (λc=>?_);have h:=a1 c
 refine aL ?_;refine aX 25 rfl (λd=>?_) (λd=>?_);have i:=a1 d
 refine aR ?_;refine aX 31 rfl (λe=>?_) (λe=>?_);have j:=a1 e
 refine hr ?_;intro b a;exact cf.of _ aT rfl a.ext;have j:=bc e
 refine bI ?_;intro b a;exact cf.of _ aT rfl a.ext;have i:=bc d
 refine eM ?_;intro b a;exact cf.of _ aT rfl a.ext;have h:=bc c
 refine jC ?_;intro b a;exact cf.of _ aT rfl a.ext;have g:=bc aK
 refine xg ?_;intro b a;exact cf.of _ aT rfl a.ext
theorem W5 (w:World) (x:ju) (g:Nat) (r:Int) (a:tP x) (c: (aE g [.int .i64 r] 3).pred w):Calls prog 135 ([]++[JZ x]++[ptr g]).toArray w (v8 w):=by
 refine aW func135 ntmps135 ?_;refine ah ?_;intro h i j;refine al ?_;refine a7 bM rfl rfl (λk d=>d.bZ c (by (simp;done)) rfl) ?_;refine aY (l0:=[]) aB.nil rfl M1 rfl (λe _=>W4 e x r a) (λb _=>?_);refine ax ?_;intro l f;exact cf.of b aT rfl f.ext
theorem W6 (w:World) (F:Nat→Prop) (A:Option Addr) (n c:Nat) (L:List ju) (d:Rd n3 w F A n c L) (f: ∀x∈L,tP x) (G:n≤1000000) (g:Nat) (r:Int) (l: (aE g [.int .i64 r] 3).pred w):
 Calls prog 134 [.slice A n c,.func (.func 135) #[] #[ptr g]].toArray w (cf (λk:Int=> .int .i64 k) (λk=> -1≤k∧k<n) w):=by
 have H:=d.len
 refine aW func134 ntmps134 ?_;refine b_ ?_;refine b1 (ι:=Nat) (λi=>[(0,.slice A n c),(1,.func (.func 135) #[] #[ptr g]),(6,.slice A n c),(7,.int .i64 (n:Int)),(8,.int .i64 (i:Int))]) (λ_=>af w [] []) (λi=>i≤n) (λi=>n - i) ?_ ?_;exact λw' m=>⟨0,bP _,(ea rfl rfl rfl rfl rfl),m⟩
 intro i hi;refine al ?_;refine aj (λo=>?_) (λo=>?_);obtain⟨v,e⟩ : ∃v,L[i]? = some v:=⟨_,bG aa⟩;obtain⟨b2,p,I,s⟩:=d.at_ e;have t:=f v (dc e)
 refine cI ?_;refine bw (q:=i) sj rfl rfl rfl p rfl aa ?_;refine cy (vs:=v.enc) L1 rfl rfl rfl (λJ y j u z=>y.ct (s j u z) av) ?_;refine lQ (l0:=[]) (first:=[]) (cap:=[ptr g]) aB.nil rfl rfl M0 rfl (λB C=>W5 B v g r t (C.dK l av)) (λb _=>?_);refine aq ?_;refine b6 rfl (λD=>?_) (λD=>?_);refine bI ?_;intro E a;exact cf.of (i:Int) ⟨aa,aa⟩ rfl a.ext;refine aD ?_;exact bg (i+1) aa aa bR (λ_ h=>h);refine bB ?_;intro E a;exact cf.of (-1) ⟨aa,aa⟩ rfl a.ext
theorem W7 (w:World) (F:Nat→Prop) (A:Option Addr) (n c:Nat) (L:List ju) (b:Rd n3 w F A n c L) (d: ∀x∈L,tP x) (e:n≤1000000) (r:Int):
 Calls prog 82 [.slice A n c,.int .i64 r].toArray w (cf (λt:Int × Bool=> .tuple #[.int .i64 t.1,.bool t.2]) (λt=>0≤t.1∧t.1≤n) w):=by
 refine aW func82 ntmps82 ?_;refine ah ?_;intro f i j;refine aL ?_;refine aY (l0:=[]) aB.nil rfl MZ rfl (λg a=>W6 g F A n c L (b.ext a.ext av) d e f r (a.has aQ)) (λk l=>?_);refine cI ?_;intro m h;exact cf.of (_,_) bm rfl h.ext
theorem W8 (w:World) (F:Nat→Prop) (A:Option Addr) (n c:Nat) (L:List hb) (o:Rd mm w F A n c L) (J:n≤1000000) (rows:Int):
 Calls prog 139 [.int .i64 rows,.slice A n c].toArray w (Pure (.bool (fz rows 0 L)) w):=by
 have K:=o.len
 refine aW func139 ntmps139 ?_;refine eM ?_;refine b1 (ι:=Nat × Int) (λt=>[(0,.int .i64 rows),(5,.int .i64 t.2),(8,.slice A n c),(9,.int .i64 (n:Int)),(10,.int .i64 (t.1 :Int))]) (λ_=>af w [] []) (λt=>t.1≤n∧fz rows 0 L=fz rows t.2 (L.drop t.1)) (λt=>n - t.1) ?_ ?_;exact λw' s=>⟨(0,0),⟨bP _,rfl⟩,(ea rfl rfl rfl rfl rfl),s⟩
 rintro⟨i,e⟩ ⟨hi,p⟩;dsimp only at hi p ⊢
 rw[p];refine al ?_;refine aj (λx=>?_) (λx=>?_);obtain⟨⟨a,b,id⟩,r⟩ : ∃v,L[i]? = some v:=⟨_,bG aa⟩;obtain⟨b2,y,M,B⟩:=o.at_ r;have ak:L.drop i=⟨a,b,id⟩::L.drop (i+1):=by
  obtain⟨f,C⟩:=cY.1 r;rw[lG f,C]
 have D: ¬(a<e∨b≤a∨rows<b)→fz rows e (L.drop i)=fz rows b (L.drop (i+1)):=λh=>by rw[ak,fz,ag h]
 have g: (a<e∨b≤a∨rows<b)→false=fz rows e (L.drop i):=λh=>by rw[ak,fz,ay h]
 refine al ?_;refine bw (q:=i) ow rfl rfl rfl y rfl aa ?_;refine cy (vs:=[.int .i64 a,.int .i64 b,.int .u64 id]) zz rfl rfl rfl (λN f j u E=>f.ct (B j u E) av) ?_;refine ar ?_;intro O P Q;refine bp ?_;refine aX 18 rfl (λk=>?_) (λk=>?_);have G:=a1 k
 refine xf ?_;intro m d;exact⟨aV (λz=>Ending.returned (Value.bool z)) (g aa),d.ext⟩;have G:=bc k
 refine bB ?_;refine aX 25 rfl (λaK=>?_) (λaK=>?_);have H:=a1 aK
 refine hs ?_;intro m d;exact⟨aV (λz=>Ending.returned (Value.bool z)) (g aa),d.ext⟩;have H:=bc aK
 refine bp ?_;refine aj (λI=>?_) (λI=>?_);refine bI ?_;intro m d;exact⟨aV (λz=>Ending.returned (Value.bool z)) (g aa),d.ext⟩;refine bI ?_;exact bg (i+1,b) ⟨aa,D aa⟩ bm bR (λ_ h=>h.aw aB.nil);refine bB ?_;intro m d;exact⟨by rw[n9 (l:=L) aa];rfl,d.ext⟩
theorem W9 (w:World) (F:Nat→Prop) (A:Option Addr) (n c:Nat) (L:List hb) (k:Rd mm w F A n c L) (K:n≤1000000) (rows:Int):
 Calls prog 141 [.int .i64 rows,.slice A n c].toArray w (aO (λz:n4=>z.val) [] (λz=>[z.au]) (λz=>z.l=ia rows 0 L) w):=by
 have M:=k.len
 refine aW func141 ntmps141 ?_;refine oD ?_;refine cL (H':=af w [] [n4.au ⟨none,0,[]⟩]) ?_ (Sub.refl _) (λx p=>p.eO 244 mm);refine ar ?_;refine b1 (ι:=Nat × Int × n4) (λt=>[(0,.int .i64 rows),(5,t.2.2.val),(6,.int .i64 t.2.1),(9,.slice A n c),(10,.int .i64 (n:Int)),(11,.int .i64 (t.1 :Int))]) (λt=>af w [] [t.2.2.au]) (λt=>t.1≤n∧t.2.2.l.length≤t.1∧ia rows 0 L=t.2.2.l++ia rows t.2.1 (L.drop t.1)) (λt=>n - t.1) ?_ ?_;exact λw' r=>⟨(0,0,⟨none,0,[]⟩),⟨bP _,bP _,rfl⟩,(gC rfl rfl rfl rfl rfl rfl),r⟩
 rintro⟨i,e,z⟩ ⟨hi,s,d⟩;dsimp only at hi s d ⊢
 refine al ?_;refine aj (λy=>?_) (λy=>?_);obtain⟨⟨a,b,id⟩,m⟩ : ∃v,L[i]? = some v:=⟨_,bG aa⟩;obtain⟨b2,B,N,C⟩:=k.at_ m;have ak:L.drop i=⟨a,b,id⟩::L.drop (i+1):=by
  obtain⟨f,D⟩:=cY.1 m;rw[lG f,D]
 have o: ¬(max 0 a<min b rows∧e≤max 0 a)→ia rows 0 L=z.l++ia rows e (L.drop (i+1)):=λh=>by rw[d,ak,ia,ag h]
 have G: (max 0 a<min b rows∧e≤max 0 a)→ia rows 0 L=(z.l++[⟨max 0 a,min b rows,id⟩])++ia rows (min b rows) (L.drop (i+1)):=λh=>by rw[d,ak,ia,ay h];simp
 refine al ?_;refine bw (q:=i) ow rfl rfl rfl B rfl aa ?_;refine cy (vs:=[.int .i64 a,.int .i64 b,.int .u64 id]) zz rfl rfl rfl (λO f j u H=>f.ct (C j u H) av) ?_;refine ar ?_;intro P Q R;refine lR ?_;refine aX 29 rfl (λg=>?_) (λg=>?_);have I:=a1 g
 refine bp ?_;refine aj (λaK=>?_) (λaK=>?_);refine aS ?_;refine dG (E:=mm) ⟨_,_,_⟩ ow rfl rfl rfl rfl rfl (λS T U=>?_);refine ew (E:=mm) ow rfl rfl rfl bi (λ_ _=>er) b7 b7 (λV W=>?_);refine b_ ?_;exact bg (i+1,min b rows,⟨_,_,z.l++[⟨max 0 a,min b rows,id⟩]⟩) ⟨aa,by dsimp only;rw[b8,iC];omega,G aa⟩ bm (gC rfl rfl rfl rfl rfl rfl) (λ_ h=>h.aw ae);refine aD ?_;exact bg (i+1,e,z) ⟨aa,by dsimp only;omega,o aa⟩ bm bR (λ_ h=>h.aw ae);have I:=bc g
 refine cI ?_;exact bg (i+1,e,z) ⟨aa,by dsimp only;omega,o aa⟩ bm bR (λ_ h=>h.aw ae);refine bI ?_;intro X J;exact aN z (by rw[d,n9 (l:=L) aa];simp[ia]) J
abbrev pj (a b:Nat) (z:m5) (r:Int):List Chunk:=[aE a [z.val] 124,aE b [.int .i64 r] 3,z.au]
theorem W_ (a:Int) (n:Nat):lD a (n+1)=lD a n++[⟨a+n,0,0⟩]:=rfl
theorem J0 (w:World) (a b:Nat) (z:m5) (r to:Int) (e:a8 w (pj a b z r)) (s:0≤r) (u:to≤1000000) (v:z.l.length≤1000000):
 Calls prog 140 ([]++[Value.int .i64 to]++[ptr b,ptr a]).toArray w (aO (λ_:m5=> .tuple #[]) (pj a b z r) (λy=>pj a b y (max r to)) (λy=>y.l=z.l++lD r (to - r).toNat) w):=by
 refine bC func140 ntmps140 e ?_;refine ar ?_;refine b1 (ι:=Nat × m5) (λ_=>[(0,.int .i64 to),(1,ptr b),(2,ptr a)]) (λt=>af w (aA (pj a b z r)) (pj a b t.2 (r+t.1))) (λt=>(t.1=0∨r+t.1≤to)∧t.2.l=z.l++lD r t.1) (λt=>(to - r).toNat - t.1) ?_ ?_;exact λw' f=>⟨(0,z),⟨.inl rfl,by simp[lD]⟩,(ef rfl rfl rfl),by rw[show r+((0 :Nat):Int)=r by omega];exact f⟩
 rintro⟨k,y⟩ ⟨g,c⟩;dsimp only at g c ⊢
 have x:y.l.length=z.l.length+k:=by rw[c,b8,v7]
 obtain⟨q,d⟩ : ∃q,q=r+(k:Int):=⟨_,rfl⟩;rw[←d];refine aL ?_;refine aj (λi=>?_) (λi=>?_);refine aL ?_;refine dG (E:=n3) ⟨_,_,_⟩ sj rfl rfl rfl rfl rfl (λA B C=>?_);refine ew (E:=n3) sj rfl rfl rfl bi (λ_ _=>ld) b7 b7 (λj m=>?_);refine aJ ?_;refine bg (k+1,⟨j,m,y.l++[⟨q,0,0⟩]⟩) ⟨.inr bm,by dsimp only;rw[c,W_,fh,←d]⟩ bm (ef rfl rfl rfl) (λ_ h=>?_);rw[show r+((k+1 :Nat):Int)=q+1 by omega];exact h.aw ae;refine ax ?_;intro D n;have o:max r to=q:=by omega
 have p: (to - r).toNat=k:=by omega
 refine aO.bQ y (by rw[c,p]) rfl ?_;rw[o];exact n.aw ae
theorem Xa (rows r:Int) (f:hb) (l:List hb):mZ rows r (f::l)=lD r (f.a - r).toNat++⟨f.a,f.id,f.b - f.a⟩::mZ rows f.b l:=rfl
theorem Xb (w:World) (F:Nat→Prop) (A:Option Addr) (n c:Nat) (L:List hb) (p:Rd mm w F A n c L) (G:n≤1000000) (rows:Int) (H:0≤rows∧rows≤200000) (C:fz rows 0 L=true):
 Calls prog 85 [.int .i64 rows,.slice A n c].toArray w (aO (λz:m5=> .tuple #[z.val,.int .i64 0]) [] (λz=>[z.au]) (λz=>z.l=mZ rows 0 L) w):=by
 have W:=p.len
 refine aW func85 ntmps85 ?_;refine bB ?_;refine bY rfl rfl (bO aa) ?_;refine ar ?_;refine bY rfl rfl (bO aa) ?_;refine ar ?_;refine ig rfl rfl (bO aa) rfl ?_;refine ar ?_;refine bY rfl rfl (bO aa) ?_;refine ar ?_;refine bY rfl rfl (bO aa) ?_;refine ar ?_;refine bY rfl rfl (bO aa) ?_;refine ao rfl M4 rfl (λk m=>(by have h:=W8 k F A n c L (p.ext m.ext av) G rows;rw[C] at h;exact h)) ?_;refine bY rfl rfl (bO aa) ?_;refine ar ?_;refine ig rfl rfl (bO aa) rfl ?_;refine aD ?_;refine sb LV rfl (λd X Y=>?_);refine aS ?_;refine sb bM rfl (λe Z Za=>?_);refine et ?_;refine cL (H':=af w [] (pj d e ⟨none,0,[]⟩ 0)) ?_ (Sub.refl _) (λx I=>(I.eO 184 n3).aw ae);refine ar ?_;refine b1 (ι:=Nat × m5 × Int) (λt=>[(0,.int .i64 rows),(6,ptr d),(7,ptr e),(8,.func (.func 140) #[] #[ptr e,ptr d]),(24,.slice A n c),(25,.int .i64 (n:Int)),(26,.int .i64 (t.1 :Int))]) (λt=>af w [] (pj d e t.2.1 t.2.2)) (λt=>t.1≤n∧(t.2.1.l.length:Int)≤t.2.2∧0≤t.2.2∧t.2.2≤rows∧fz rows t.2.2 (L.drop t.1)=true∧mZ rows 0 L=t.2.1.l++mZ rows t.2.2 (L.drop t.1)) (λt=>n - t.1) ?_ ?_;exact λw' J=>⟨(0,⟨none,0,[]⟩,0),⟨bP _,by simp,by simp,H.1,C,rfl⟩,(hq rfl rfl rfl rfl rfl rfl rfl),J⟩
 rintro⟨i,z,r⟩ ⟨hi,K,s,M,f,g⟩;dsimp only at hi K s M f g ⊢
 refine al ?_;refine aj (λN=>?_) (λN=>?_);obtain⟨⟨a,b,id⟩,D⟩ : ∃v,L[i]? = some v:=⟨_,bG aa⟩;obtain⟨b2,O,Zb,P⟩:=p.at_ D;have ak:L.drop i=⟨a,b,id⟩::L.drop (i+1):=by
  obtain⟨B,Q⟩:=cY.1 D;rw[lG B,Q]
 rw[ak,fz] at f
 rw[ak,Xa] at g
 dsimp only at f g
 have R: ¬(a<r∨b≤a∨rows<b):=λh=>by rw[ay h] at f;cases f
 rw[ag R] at f
 refine al ?_;refine bw (q:=i) ow rfl rfl rfl O rfl aa ?_;refine cy (vs:=[.int .i64 a,.int .i64 b,.int .u64 id]) zz rfl rfl rfl (λZc B j u S=>B.ct (P j u S) av) ?_;refine ar ?_;intro Zd Ze Zf;refine aL ?_;refine lQ (l0:=pj d e z r) (first:=[]) (cap:=[ptr e,ptr d]) ae rfl rfl Eu rfl (λk m=>J0 k d e z r a (m.bo ae) s aa aa) (λy o=>?_);have Zg:y.l.length=z.l.length+(a - r).toNat:=by rw[o,b8,v7]
 refine cI ?_;refine dG (E:=n3) ⟨_,_,_⟩ sj rfl rfl rfl rfl rfl (λZh Zi Zj=>?_);refine ew (E:=n3) sj rfl rfl rfl bi (λ_ _=>ld) b7 b7 (λT U=>?_);refine b_ ?_;refine bg (i+1,⟨T,U,y.l++[⟨a,id,b - a⟩]⟩,b) ⟨aa,by dsimp only;rw[b8,iC];omega,by dsimp only;omega,by dsimp only;omega,f,by dsimp only;rw[g,o];simp⟩ bm (hq rfl rfl rfl rfl rfl rfl rfl) (λ_ h=>h.aw ae);rw[n9 (l:=L) aa] at g
 refine aJ ?_;refine lQ (l0:=pj d e z r) (first:=[]) (cap:=[ptr e,ptr d]) ae rfl rfl Eu rfl (λk m=>J0 k d e z r rows (m.bo ae) s aa aa) (λy o=>?_);refine bp ?_;intro Zk V;exact aN y (by rw[g,o];rfl) V
def Xc:Shelf.Ren:=⟨λ| 125=>146 | 128=>214 | 129=>215 | 189=>137 | 215=>377 | 216=>300 | 257=>204 | 294=>294 | 295=>295 | 296=>296 | 297=>297 | 298=>298 | 299=>299 | 300=>301 | 301=>302 | 328=>374 | 329=>304 | 330=>305 | 331=>375 | 332=>376 | 343=>427 | n=>n,λ| 0=>0 | 3=>3 | 4=>4 | 5=>5 | 9=>9 | 28=>122 | 46=>250 | 51=>76 | 53=>32 | 131=>186 | 182=>298 | 183=>299 | 218=>361 | 222=>365 | 228=>401 | 229=>280 | n=>n,λn=>n⟩
theorem J1:Lays.n189 prog Xc where
 mixed:=by kernel_rfl
 f125:=func146.trans (aV some ab)
 f128:=func214.trans (aV some ab)
 f129:=func215.trans (aV some ab)
 f189:=func137.trans (aV some ab)
 f215:=func377.trans (aV some ab)
 f216:=func300.trans (aV some ab)
 f257:=func204.trans (aV some ab)
 f294:=func294.trans (aV some ab)
 f295:=func295.trans (aV some ab)
 f296:=func296.trans (aV some ab)
 f297:=func297.trans (aV some ab)
 f298:=func298.trans (aV some ab)
 f299:=func299.trans (aV some ab)
 f300:=func301.trans (aV some ab)
 f301:=func302.trans (aV some ab)
 f328:=func374.trans (aV some ab)
 f329:=func304.trans (aV some ab)
 f330:=func305.trans (aV some ab)
 f331:=func375.trans (aV some ab)
 f332:=func376.trans (aV some ab)
 f343:=func427.trans (aV some ab)
 t0:=underlying0
 a0:=isAgg0
 z0:=sizeOf0
 v0:=zeroValue0
 t3:=underlying3
 a3:=isAgg3
 z3:=sizeOf3
 v3:=zeroValue3
 t4:=underlying4
 a4:=isAgg4
 z4:=sizeOf4
 v4:=zeroValue4
 t5:=underlying5
 a5:=isAgg5
 z5:=sizeOf5
 v5:=zeroValue5
 t9:=underlying9
 a9:=isAgg9
 z9:=sizeOf9
 v9:=zeroValue9
 t28:=underlying122
 a28:=isAgg122
 z28:=sizeOf122
 v28:=zeroValue122
 t46:=underlying250
 a46:=isAgg250
 z46:=sizeOf250
 v46:=zeroValue250
 t51:=underlying76
 a51:=isAgg76
 z51:=sizeOf76
 v51:=zeroValue76
 t53:=underlying32
 a53:=isAgg32
 z53:=sizeOf32
 v53:=zeroValue32
 t131:=underlying186
 a131:=isAgg186
 z131:=sizeOf186
 v131:=zeroValue186
 t182:=underlying298
 a182:=isAgg298
 z182:=sizeOf298
 v182:=zeroValue298
 t183:=underlying299
 a183:=isAgg299
 z183:=sizeOf299
 v183:=zeroValue299
 t218:=underlying361
 a218:=isAgg361
 z218:=sizeOf361
 v218:=zeroValue361
 t222:=underlying365
 a222:=isAgg365
 z222:=sizeOf365
 v222:=zeroValue365
 t228:=underlying401
 a228:=isAgg401
 z228:=sizeOf401
 v228:=zeroValue401
 t229:=underlying280
 a229:=isAgg280
 z229:=sizeOf280
 v229:=zeroValue280
def Xd:Shelf.Ren:=⟨λ| 20=>138 | n=>n,λ| 0=>0 | 3=>3 | 4=>4 | 22=>122 | n=>n,λn=>n⟩
theorem J2:Lays2.n20 prog Xd where
 mixed:=by kernel_rfl
 f20:=func138.trans (aV some ab)
 t0:=underlying0
 a0:=isAgg0
 z0:=sizeOf0
 v0:=zeroValue0
 t3:=underlying3
 a3:=isAgg3
 z3:=sizeOf3
 v3:=zeroValue3
 t4:=underlying4
 a4:=isAgg4
 z4:=sizeOf4
 v4:=zeroValue4
 t22:=underlying122
 a22:=isAgg122
 z22:=sizeOf122
 v22:=zeroValue122
 i3:=by kernel_rfl
structure gj where
 A:Option Addr
 c:Nat
 l:List Int
abbrev gj.val (r:gj):Value:= .slice r.A r.l.length r.c
abbrev gj.au (r:gj):Chunk:=Mq.au 3 bX r.A r.c r.l
theorem rI: ∀l:List Int,bX.all l=l.map (Value.int .i64)
 | []=>rfl
 | a::l=>by
  show [Value.int .i64 a]++bX.all l=_
  rw[rI l];rfl
theorem J3 {w:World} {e g c:Nat} {L z:List Int} (h: (au e bX (some ⟨g,0,none⟩) c L).pred w) (t:z.length=L.length) (k:Nat) (os:Array Obj):
 (au e bX (some ⟨g,0,none⟩) c z).pred (Sort.grow (Sort.putRow (Value.int .i64) (Sort.ahead w k) g 0 z.toArray) os)∧Ext [g] w (Sort.grow (Sort.putRow (Value.int .i64) (Sort.ahead w k) g 0 z.toArray) os):=by
 obtain⟨u,j | ⟨v,cap,am,l,_,d,x,m,f,y⟩⟩:=(h:w.ownsRow 0 e 1 (.slice (some ⟨g,0,none⟩) L.length c) L.length (bX.all L));cases j.1
 injection l with a A n
 injection a with a
 injection a with a
 subst a;subst n
 have o:g<w.heap.size:=(lE.1 d).1
 refine⟨?_,rfl,rfl,rfl,by simp[Sort.grow,Sort.putRow,Sort.mapBlock],λb p r=>?_⟩;refine⟨by rw[bX.dE],.inr ⟨g,c,Sort.putCells (Value.int .i64) 0 z.toArray am,rfl,bP _,?_,aa,m,by rw[Sort.putCells,Array.size_mapIdx];exact f,?_⟩⟩;show ((w.heap.modify g _)++os)[g]? = _
 rw[ub (by simpa using o),qz,ay rfl,d];rfl
 rw[rI];apply ms
 intro i;rw[iB,eJ];by_cases hi:i<z.length
 have B:am.size=c:=by rw[f];exact Nat.mul_one _
 have s:i<am.size:=by omega
 rw[ay (show i<z.length*bX.sz by show i<z.length*1;omega),Array.getElem?_toList,Sort.putCells,Array.getElem?_mapIdx,qy s,ol,ay ⟨bP _,by simpa using hi⟩,bG hi,ol,getElem!_pos z.toArray (i - 0) (by simpa using hi)];simp
 rw[ag (show ¬i<z.length*bX.sz by show ¬i<z.length*1;omega),km aa];rfl
 show ((w.heap.modify g _)++os)[b]? = _
 rw[ub (by simpa using p),qz,ag (λq=>r (by simp[q]))]
theorem J4 {w:World} {e g c:Nat} {L:List Int} (h: (au e bX (some ⟨g,0,none⟩) c L).pred w):Sort.Holds (Value.int .i64) w g 0 L.toArray∧g<w.heap.size∧L.length≤c∧c≤maxLen:=by
 obtain⟨q,i | ⟨r,cap,am,k,_,d,l,m,s,n⟩⟩:=(h:w.ownsRow 0 e 1 (.slice (some ⟨g,0,none⟩) L.length c) L.length (bX.all L));cases i.1
 injection k with a t o
 injection a with a
 injection a with a
 subst a;subst o
 refine⟨λj f=>⟨?_,by simp[World.frozen?,d]⟩,(lE.1 d).1,l,m⟩;have p:j<L.length:=by simpa using f
 rw[cell_of_row w g _ am e (0,0) d,dA];have b: (bX.all L)[j]? = some (.int .i64 L[j]):=by rw[rI,eJ,bG p];rfl
 rw[←n,iB] at b
 split at b
 rw[getElem!_pos _ j f];simpa using b
 cases b
theorem Xe {w:World} {α:Type} {E:bx α} {e:Nat} {A:Option Addr} {c j:Nat} {L:List α} (a:j≤L.length) (h: (Mq.au e E A c L).pred w): (Mq.au e E A c (L.take j)).pred w:=by
 have b:=CB (e:=e) (sz:=E.sz) a h
 rw[←bx.CE] at b
 show w.ownsRow 0 _ _ (.slice A (L.take j).length c) (L.take j).length _
 rw[dv,iE a];exact b
theorem J5 {w:World} {α:Type} {E:bx α} {e:Nat} {A:Option Addr} {c:Nat} {L:List α} (h: (Mq.au e E A c L).pred w) (a:0<L.length): ∃g,A=some ⟨g,0,none⟩:=x9 h a
theorem Xf (w:World) (z:gj) (b:a8 w [z.au]) (i:z.l.length≤1000000):Calls prog 137 [z.val].toArray w
 (aO (λ_:List Int=> .tuple #[]) [z.au] (λl=>[gj.au ⟨z.A,z.c,l⟩]) (λl=>l.length=z.l.length) w):=by
 have d:=b.start w rfl
 rcases gM z.l.length with a | a
 have:=calls_of_every_depth λD=>AnyS.slices_Sort_int_none_alone J1 D z.A z.c w
 show Calls prog _ #[.slice z.A z.l.length z.c] w _
 rw[a];refine Calls.mono this ?_;rintro e w' ⟨rfl,rfl⟩;exact aO.bQ z.l a rfl d;obtain⟨g,f⟩:=J5 (e:=3) (b.all z.au av) a;obtain⟨A,c,l⟩:=z;dsimp only at f
 subst f;have ai: (au 3 bX (some ⟨g,0,none⟩) c l).pred w:=b.all (gj.au ⟨some ⟨g,0,none⟩,c,l⟩) av
 obtain⟨j,m,o,p⟩:=J4 ai;refine Calls.mono (Any.slices_Sort_int J1 g 0 c l w j m (by dsimp only at i;omega)) ?_;rintro e w' ⟨rfl,k,os,rfl⟩;have h:=J3 ai (z:=l.mergeSort λx y=>decide (x≤y)) (by rw[List.length_mergeSort]) k os
 exact aO.bQ (l.mergeSort λx y=>decide (x≤y)) (by rw[List.length_mergeSort]) rfl (d.ic bn.head h.2 h.1 (λk n=> .inl n) (by simp[Mq.au,own,Value.ownBlock]))
theorem Xg (w:World) (z:gj) (b:a8 w [z.au]) (m:z.l.length≤1000000):Calls prog 138 [z.val].toArray w
 (aO (λy:gj=>y.val) [z.au] (λy=>[y.au]) (λy=>y.l.length≤z.l.length) w):=by
 have f:=b.start w rfl
 rcases gM z.l.length with a | a
 have:=calls_of_every_depth λD=>AnyS.slices_Compact_int_empty_in J2 D z.A z.c w
 show Calls prog _ #[.slice z.A z.l.length z.c] w _
 rw[a];refine Calls.mono this ?_;rintro e w' ⟨rfl,rfl⟩;exact aO.bQ z aa (by rw[gj.val,a]) f;obtain⟨g,h⟩:=J5 (e:=3) (b.all z.au av) a;obtain⟨A,c,l⟩:=z;dsimp only at h
 subst h;have ai: (au 3 bX (some ⟨g,0,none⟩) c l).pred w:=b.all (gj.au ⟨some ⟨g,0,none⟩,c,l⟩) av
 obtain⟨n,r,o,s⟩:=J4 ai;refine Calls.mono (calls_of_every_depth λD=>AnyS.slices_Compact_int_in J2 D g 0 c l w n (by dsimp only at m;omega) o) ?_;rintro e w' ⟨rfl,k,rfl⟩;have p:=Lib.compact_length_le l
 have d:=J3 ai (z:=Lib.compact l++List.replicate (l.length - (Lib.compact l).length) 0) (by simp;omega) k #[]
 rw[Sort.grow_empty] at d
 have i:=Xe (j:=(Lib.compact l).length) av d.1
 rw[List.take_left] at i
 exact aO.bQ ⟨some ⟨g,0,none⟩,c,Lib.compact l⟩ p rfl (f.ic bn.head d.2 i (λk q=> .inl q) (by simp[Mq.au,own,Value.ownBlock]))
theorem J6 (w:World) (F:Nat→Prop) (A:Option Addr) (n c:Nat) (L:List Int) (h:Rd bX w F A n c L) (o:n≤1000000):Calls prog 84 [.slice A n c].toArray w
 (aO (λz:gj=>z.val) [] (λz=>[z.au]) (λz=>z.l.length≤n) w):=by
 have p:=h.len
 refine aW func84 ntmps84 ?_;refine aL ?_;refine px 3 1 ?_;refine rb (E:=bX) (src:=L) (F:=F) (m:=0) (xs:=[]) L.length aa dO rfl rfl rfl (λ_=>by exact cA) (λw' i=>h.ext i.ext av) (by simp only[maxLen];omega) aa (λa b=>?_);refine al ?_;refine aY (l0:=[gj.au ⟨a,b,L⟩]) ae rfl M2 rfl (λe f=>Xf e ⟨a,b,L⟩ (f.bo ae) (by show L.length≤1000000;omega)) (λd g=>?_);refine ax ?_;refine aY (l0:=[gj.au ⟨a,b,d⟩]) ae rfl M3 (by rw[←g];rfl) (λe f=>Xg e ⟨a,b,d⟩ (f.bo ae) (by show d.length≤1000000;dsimp only at g;omega)) (λy j=>?_);refine ax ?_;intro q k;exact aN y (fs j (by show d.length≤n;dsimp only at g;omega)) k
theorem J7 (w:World) (n:Nat) (f:FuncId) (cap:List Value) (s:n≤1000000) (d:ad prog f)
 (e: ∀w',Ext [] w w'→ ∀i:Nat,i<n→Calls prog f (([]:List Value)++[Value.int .i64 (i:Int)]++cap).toArray w' (v8 w')):
 Calls prog 291 [.int .i64 (n:Int),.func (.func f) [].toArray cap.toArray].toArray w (cf (λk:Int=> .int .i64 k) (λk=>0≤k∧k≤n) w):=by
 refine aW func291 ntmps291 ?_;refine b_ ?_;refine b1 (ι:=Nat × Nat) (λi=>[(1,.func (.func f) [].toArray cap.toArray),(5,.int .i64 (i.1 :Int)),(6,.int .i64 (i.2 :Int))]) (λ_=>af w [] []) (λi=>i.1≤i.2∧i.2≤n) (λi=>i.2 - i.1) ?_ ?_;exact λw a=>⟨(0,n),⟨bP _,ch _⟩,(ef rfl rfl rfl),a⟩
 rintro⟨i,j⟩ ⟨g,c⟩;dsimp only at g c ⊢
 obtain⟨m,t⟩ : ∃m,m=(i+j)/2:=⟨_,rfl⟩;refine aL ?_;refine aj (λl=>?_) (λl=>?_);refine aL ?_;refine dm rfl rfl underlying3 underlying250 (r:=(i:Int)+(j:Int)) (by simp[IntKind.wrap,IntKind.bits,IntKind.signed];omega) ?_;refine F2 rfl rfl rfl aZ (r:=(m:Int)) (by rw[show min (1 :Int).toNat IntKind.u64.bits=1 from rfl];omega) ?_;refine dm rfl rfl underlying250 underlying3 (r:=(m:Int)) (by simp[IntKind.wrap,IntKind.bits,IntKind.signed];omega) ?_;refine aD ?_;refine lQ (l0:=[]) (first:=[]) (cap:=cap) aB.nil rfl rfl d rfl (λo p=>e o p.ext m aa) (λb _=>?_);refine ah ?_;refine b6 rfl (λq=>?_) (λq=>?_);refine al ?_;exact bg (m+1,j) ⟨by dsimp only;omega,c⟩ bm bR (λ_ h=>h);refine ax ?_;exact bg (i,m) ⟨by dsimp only;omega,by dsimp only;omega⟩ bm bR (λ_ h=>h);refine bI ?_;intro u a;exact cf.of (i:Int) ⟨aa,aa⟩ rfl a.ext
theorem Xh (w:World) (F:Nat→Prop) (A:Option Addr) (n c:Nat) (L:List Int) (e:Rd bX w F A n c L) (f g:Nat) (x:Int) (j: (aE f [.slice A n c] 122).pred w) (k: (aE g [.int .i64 x] 3).pred w) (i:Nat) (hi:i<n):
 Calls prog 292 (([]:List Value)++[Value.int .i64 (i:Int)]++[ptr f,ptr g]).toArray w (v8 w):=by
 have r:=e.len
 obtain⟨v,l⟩ : ∃v,L[i]? = some v:=⟨_,bG aa⟩;obtain⟨b2,m,s,o⟩:=e.at_ l;refine aW func292 ntmps292 ?_;refine al ?_;refine bF [0,1,2,3,4,5,6] 0 [[]] ?_;refine aI rfl (λd a=>(a7 il rfl rfl (λh b=>by subst b;exact a.bZ j (by (simp;done)) rfl) aC)) ?_;refine ar ?_;refine aI rfl (λd a=>(bw (q:=i) dO rfl rfl rfl m rfl aa aC)) ?_;refine aI rfl (λd a=>(a7 (v:= .int .i64 v) bM rfl rfl (λh b=>by subst b;exact a.ct (o 0 _ rfl) av) aC)) ?_;refine aI rfl (λd a=>(a7 bM rfl rfl (λh b=>by subst b;exact a.bZ k (by (simp;done)) rfl) aC)) ?_;refine aD ?_;intro t p;exact cf.of _ aT rfl p.ext
theorem Xi (w:World) (F:Nat→Prop) (A:Option Addr) (n c:Nat) (L:List Int) (e:Rd bX w F A n c L) (f g:Nat) (x:Int) (j: (aE f [.slice A n c] 122).pred w) (k: (aE g [.int .i64 x] 3).pred w) (i:Nat) (hi:i<n):
 Calls prog 293 (([]:List Value)++[Value.int .i64 (i:Int)]++[ptr f,ptr g]).toArray w (v8 w):=by
 have r:=e.len
 obtain⟨v,l⟩ : ∃v,L[i]? = some v:=⟨_,bG aa⟩;obtain⟨b2,m,s,o⟩:=e.at_ l;refine aW func293 ntmps293 ?_;refine al ?_;refine bF [0,1,2,3,4,5,6] 0 [[]] ?_;refine aI rfl (λd a=>(a7 il rfl rfl (λh b=>by subst b;exact a.bZ j (by (simp;done)) rfl) aC)) ?_;refine ar ?_;refine aI rfl (λd a=>(bw (q:=i) dO rfl rfl rfl m rfl aa aC)) ?_;refine aI rfl (λd a=>(a7 (v:= .int .i64 v) bM rfl rfl (λh b=>by subst b;exact a.ct (o 0 _ rfl) av) aC)) ?_;refine aI rfl (λd a=>(a7 bM rfl rfl (λh b=>by subst b;exact a.bZ k (by (simp;done)) rfl) aC)) ?_;refine aD ?_;intro t p;exact cf.of _ aT rfl p.ext
abbrev J8 (n:Nat) (w:World):=cf (λk:Int=> .int .i64 k) (λk=>0≤k∧k≤n) w
theorem Xj (w:World) (F:Nat→Prop) (A:Option Addr) (n c:Nat) (L:List Int) (e:Rd bX w F A n c L) (f:n≤1000000) (x:Int):Calls prog 202 [.slice A n c,.int .i64 x].toArray w (J8 n w):=by
 refine aW func202 ntmps202 ?_;refine ah ?_;intro g m o;refine ar ?_;intro h p q;refine aL ?_;refine aY (l0:=[]) aB.nil rfl zZ rfl (λa b=>J7 a n _ _ f NY (λw' d i hi=>Xh w' F A n c L ((e.ext b.ext av).dL d) g h x ((af.start a).keep d |>.dK (b.has bH) av) ((af.start a).keep d |>.dK (b.has aQ) av) i hi)) (λk j=>?_);refine ax ?_;intro r l;exact cf.of k j rfl l.ext
theorem Xk (w:World) (F:Nat→Prop) (A:Option Addr) (n c:Nat) (L:List Int) (e:Rd bX w F A n c L) (f:n≤1000000) (x:Int):Calls prog 203 [.slice A n c,.int .i64 x].toArray w (J8 n w):=by
 refine aW func203 ntmps203 ?_;refine ah ?_;intro g m o;refine ar ?_;intro h p q;refine aL ?_;refine aY (l0:=[]) aB.nil rfl zZ rfl (λa b=>J7 a n _ _ f NZ (λw' d i hi=>Xi w' F A n c L ((e.ext b.ext av).dL d) g h x ((af.start a).keep d |>.dK (b.has bH) av) ((af.start a).keep d |>.dK (b.has aQ) av) i hi)) (λk j=>?_);refine ax ?_;intro r l;exact cf.of k j rfl l.ext
abbrev C4 (w:World):=cf (λt:Int × Bool=> .tuple #[.int .i64 t.1,.bool t.2]) (λ_=>True) w
theorem Xl (w:World) (F:Nat→Prop) (A:Option Addr) (n c:Nat) (L:List Int) (a:Rd bX w F A n c L) (d:n≤1000000) (x:Int):Calls prog 132 [.slice A n c,.int .i64 x].toArray w (C4 w):=by
 have p:=a.len
 refine aW func132 ntmps132 ?_;refine bp ?_;refine aY (l0:=[]) aB.nil rfl Nu rfl (λe f=>Xj e F A n c L (a.ext f.ext av) d x) (λk r=>?_);refine bp ?_;refine aj (λg=>?_) (λg=>?_);obtain⟨q,h⟩ : ∃q:Nat,k=(q:Int):=⟨k.toNat,aa⟩;obtain⟨v,i⟩ : ∃v,L[q]? = some v:=⟨_,bG aa⟩;obtain⟨b2,j,s,l⟩:=a.at_ i;refine aS ?_;refine bw (q:=q) dO rfl rfl rfl j h aa ?_;refine a7 (v:= .int .i64 v) bM rfl rfl (λt m=>m.ct (l 0 _ rfl) av) ?_;refine aD ?_;intro o b;exact cf.of (_,_) aT rfl b.ext;refine aR ?_;intro o b;exact cf.of (_,_) aT rfl b.ext
theorem Xm (w:World) (F:Nat→Prop) (A:Option Addr) (n c:Nat) (L:List Int) (a:Rd bX w F A n c L) (d:n≤1000000) (x:Int):Calls prog 133 [.slice A n c,.int .i64 x].toArray w (C4 w):=by
 have p:=a.len
 refine aW func133 ntmps133 ?_;refine aR ?_;refine aY (l0:=[]) aB.nil rfl Nv rfl (λe f=>Xk e F A n c L (a.ext f.ext av) d x) (λk r=>?_);refine aR ?_;refine aj (λg=>?_) (λg=>?_);refine aJ ?_;intro h b;exact cf.of (_,_) aT rfl b.ext;obtain⟨q,i⟩ : ∃q:Nat,k - 1=(q:Int):=⟨(k - 1).toNat,aa⟩;obtain⟨v,j⟩ : ∃v,L[q]? = some v:=⟨_,bG aa⟩;obtain⟨b2,l,s,m⟩:=a.at_ j;refine aD ?_;refine bw (q:=q) dO rfl rfl rfl l i aa ?_;refine a7 (v:= .int .i64 v) bM rfl rfl (λt o=>o.ct (m 0 _ rfl) av) ?_;refine al ?_;intro h b;exact cf.of (_,_) aT rfl b.ext
theorem Xn (w:World) (b:eV) (k:Int):Calls prog 83 [.agg b.enc.toArray,.int .i64 k].toArray w (C4 w):=by
 refine aW func83 ntmps83 ?_;refine ah ?_;intro j l m;refine b_ ?_;refine aj (λe=>?_) (λe=>?_);refine bp ?_;intro c a;exact cf.of (_,_) aT rfl a.ext;refine aD ?_;refine aj (λaK=>?_) (λaK=>?_);refine bI ?_;intro c a;exact cf.of (_,_) aT rfl a.ext;refine aD ?_;refine aj (λf=>?_) (λf=>?_);refine ar ?_;refine bF [0,1,2,3,4,5,6,7,8,9,10,11,12] 0 [[]] ?_;refine aD ?_;refine no 25 rfl (λd=>?_) (λd=>?_);have g:=a1 d
 refine bI ?_;intro c a;exact cf.of (_,_) aT rfl a.ext;have g:=bc d
 refine bI ?_;intro c a;exact cf.of (_,_) aT rfl a.ext;refine aD ?_;refine aj (λh=>?_) (λh=>?_);refine ar ?_;refine bF [0,1,2,3,4,5,6,7,8,9,10,11] 0 [[]] ?_;refine al ?_;refine no 38 rfl (λi=>?_) (λi=>?_);refine bI ?_;intro c a;exact cf.of (_,_) aT rfl a.ext;refine bI ?_;intro c a;exact cf.of (_,_) aT rfl a.ext;refine bp ?_;intro c a;exact cf.of (_,_) aT rfl a.ext
theorem Xo (w:World) (F:Nat→Prop) (A:Option Addr) (n c:Nat) (L:List eV) (e:Rd ix w F A n c L) (K:n≤100000) (k:Int):Calls prog 44 [.slice A n c,.int .i64 k].toArray w
 (aO (λz:gj=>z.val) [] (λz=>[z.au]) (λz=>z.l.length≤n) w):=by
 have M:=e.len
 refine aW func44 ntmps44 ?_;refine e4 ?_;refine cL (H':=af w [] [gj.au ⟨none,0,[]⟩]) ?_ (Sub.refl _) (λx f=>f.eO 3 bX);refine ar ?_;refine b1 (ι:=Nat × gj) (λt=>[(1,.int .i64 k),(5,t.2.val),(10,.slice A n c),(11,.int .i64 (n:Int)),(12,.int .i64 (t.1 :Int))]) (λt=>af w [] [t.2.au]) (λt=>t.1≤n∧t.2.l.length≤t.1) (λt=>n - t.1) ?_ ?_;exact λw' g=>⟨(0,⟨none,0,[]⟩),⟨bP _,bP _⟩,(ea rfl rfl rfl rfl rfl),g⟩
 rintro⟨i,z⟩ ⟨hi,m⟩;dsimp only at hi m ⊢
 refine al ?_;refine aj (λp=>?_) (λp=>?_);obtain⟨v,s⟩ : ∃v,L[i]? = some v:=⟨_,bG aa⟩;obtain⟨b2,B,N,C⟩:=e.at_ s;refine al ?_;refine bw (q:=i) kq rfl rfl rfl B rfl aa ?_;refine cy (vs:=v.enc) gy rfl rfl rfl (λO D j u a=>D.ct (C j u a) av) ?_;refine ar ?_;intro P Q R;refine eW (vs:=v.enc) gy rfl rfl (bn.whole cA bb) rfl (aH.cons rfl (aH.cons rfl (aH.cons rfl (aH.cons rfl (aH.cons rfl (aH.cons rfl (aH.cons rfl (gb rfl rfl rfl rfl rfl rfl rfl rfl rfl rfl)))))))) (by exact dY rfl) ?_;refine aS ?_;refine cy (vs:=v.enc) gy rfl rfl rfl (λS G j u a=>G.k5 (sz:=17) (o:=0) (xs:=v.enc) aQ rfl j u a) ?_;refine ar ?_;refine aY (l0:=[]) aB.nil rfl MG rfl (λd _=>Xn d v k) (λ⟨r,b⟩ _=>?_);refine bB ?_;refine b6 rfl (λH=>?_) (λH=>?_);refine ah ?_;refine dG (E:=bX) _ dO rfl rfl rfl rfl rfl (λT U V=>?_);refine ew (E:=bX) dO rfl rfl rfl bi (λ_ _=>er) b7 b7 (λW X=>?_);refine aL ?_;exact bg (i+1,⟨_,_,z.l++[r]⟩) ⟨aa,by dsimp only;rw[b8,iC];omega⟩ bm (ea rfl rfl rfl rfl rfl) (λ_ h=>h.aw ae);refine aD ?_;exact bg (i+1,z) ⟨aa,by dsimp only;omega⟩ bm bR (λ_ h=>h.aw ae);refine aL ?_;refine aY (l0:=[]) aB.nil rfl Eo rfl (λd I=>J6 d _ z.A z.l.length z.c z.l (gV (I.has (c:=z.au) aQ)) aa) (λy Y=>?_);refine ax ?_;intro Z J;exact aN y aa J
theorem Xp (w:World) (F:Nat→Prop) (A:Option Addr) (n c:Nat) (L:List Int) (o:Rd bX w F A n c L) (q:n≤100000) (x k:Int) (s: -9223372036854775808≤k∧k≤9223372036854775807):Calls prog 81 [.slice A n c,.int .i64 x,.int .i64 k].toArray w
 (cf (λr:Int=> .int .i64 r) (λ_=>True) w):=by
 refine aW func81 ntmps81 ?_;refine aL ?_;refine aY (l0:=[]) aB.nil rfl Eo rfl (λd e=>J6 d F A n c L (o.ext e.ext av) aa) (λz u=>?_);refine et ?_;refine aj (λp=>?_) (λp=>?_);refine aS ?_;refine ov rfl rfl (wrap64 aa aa) ?_;refine aq ?_;refine ov rfl rfl (wrap64 aa aa) ?_;refine dx ?_;refine b1 (ι:=Nat × Int) (λt=>[(1,.int .i64 t.2),(7,z.val),(8,.func (.func 133) #[] #[]),(28,.int .i64 (min (0 - max k (0 - (z.l.length:Int) - 1)) ((z.l.length:Int)+1))),(29,.int .i64 (t.1 :Int))]) (λ_=>af w [] [z.au]) (λt=>t.1≤200000) (λt=>200000 - t.1) ?_ ?_;exact λw' f=>⟨(0,x),bP _,(ea rfl rfl rfl rfl rfl),f.aw ae⟩
 rintro⟨i,y⟩ hi;dsimp only at hi ⊢
 refine al ?_;refine aj (λg=>?_) (λg=>?_);refine aJ ?_;refine lQ (l0:=[]) (first:=[]) (cap:=[]) aB.nil rfl rfl MY rfl (λd e=>Xm d _ z.A z.l.length z.c z.l (gV (e.has (c:=z.au) aQ)) aa y) (λ⟨r,b⟩ _=>?_);refine b_ ?_;refine b6 rfl (λj=>?_) (λj=>?_);simp only[b3] at j
 refine aq ?_;refine r5 rfl (r3 (r6 (r4 (my (k0 (m_ ?_))))));refine al ?_;intro m a;exact cf.of _ aT rfl (a.aw aB.nil).ext;simp only[b3] at j
 refine bB ?_;exact bg (i+1,r) bm bm bR (λ_ h=>h.aw ae);refine bI ?_;intro m a;exact cf.of _ aT rfl (a.aw aB.nil).ext;refine b_ ?_;refine b1 (ι:=Nat × Int) (λt=>[(1,.int .i64 t.2),(7,z.val),(8,.func (.func 132) #[] #[]),(28,.int .i64 (min k ((z.l.length:Int)+1))),(29,.int .i64 (t.1 :Int))]) (λ_=>af w [] [z.au]) (λt=>t.1≤200000) (λt=>200000 - t.1) ?_ ?_;exact λw' f=>⟨(0,x),bP _,(ea rfl rfl rfl rfl rfl),f.aw ae⟩
 rintro⟨i,y⟩ hi;dsimp only at hi ⊢
 refine al ?_;refine aj (λg=>?_) (λg=>?_);refine aJ ?_;refine lQ (l0:=[]) (first:=[]) (cap:=[]) aB.nil rfl rfl MX rfl (λd e=>Xl d _ z.A z.l.length z.c z.l (gV (e.has (c:=z.au) aQ)) aa y) (λ⟨r,b⟩ _=>?_);refine b_ ?_;refine b6 rfl (λaK=>?_) (λaK=>?_);simp only[b3] at aK
 refine aq ?_;refine r5 rfl (r3 (r6 (r4 (my (k0 (m_ ?_))))));refine al ?_;intro m a;exact cf.of _ aT rfl (a.aw aB.nil).ext;simp only[b3] at aK
 refine bB ?_;exact bg (i+1,r) bm bm bR (λ_ h=>h.aw ae);refine bI ?_;intro m a;exact cf.of _ aT rfl (a.aw aB.nil).ext
section
section
variable {P:Program} {n:Nat} {Q:cq} {l:Fr} {H:World→Prop}
def C5 (Q:cq):cq:=λe l w=>match e with
 | .goto _=>False
 | e=>Q e l w
theorem J9 {c:Code} (h:de P n c (C5 Q) l H):de P n (.scope c) Q l H:=by
 intro w d a f;refine wp_scope_straight (wp_mono (h w d a f) ?_);intro e a' w' ⟨l',g,b⟩;cases e <;> first | exact b.elim | exact⟨l',g,b⟩
theorem C6 (h:dU Q .normal l H):dU (C5 Q) .normal l H:=h
theorem Xq (h:dU Q .ret l H):dU (C5 Q) .ret l H:=h
end
abbrev tQ (L:List Int):Prop:= ∀(j:Nat) (v:Int),L[j]? = some v→ -1≤v∧v<j
theorem tQ.set {L:List Int} (h:tQ L) {i:Nat} {v:Int} (b: -1≤v) (c:v<i):tQ (L.set i v):=λj u a=>by
 rw[oa] at a
 split at a
 rename_i d;split at a
 cases a;omega
 cases a
 exact h j u a
theorem yQ (w:World) (c:UInt8):Calls prog 90 (([]:List Value)++[Value.int .u8 (c.toNat:Int)]++[]).toArray w (Pure (.int .u8 (c.toNat:Int)) w):=by
 refine aW func90 ntmps90 ?_;refine bI ?_;intro b a;exact⟨rfl,a.ext⟩
abbrev rJ:Value:= .func (.func 90) #[] #[]
abbrev tR (g m:Nat) (L:List Int):Chunk:=own 3 1 (.slice (some ⟨g,0,none⟩) m m) m (bX.all L)
theorem Xr (w:World) (s:List UInt8) (N:s.length≤1000000):Calls prog 205 [.string (bs s),rJ].toArray w
 (aO (λi:Nat × List Int=> .slice (some ⟨i.1,0,none⟩) (s.length+1) (s.length+1)) [] (λi=>[tR i.1 (s.length+1) i.2]) (λi=>i.2.length=s.length+1∧tQ i.2) w):=by
 refine aW func205 ntmps205 ?_;refine ax ?_;refine J9 (k0 (m_ ?_));refine ah ?_;refine se (s.length+1) dO rfl rfl rfl rfl (by simp only[maxLen];omega) aa (λb O P=>?_);refine al ?_;refine bw (q:=0) dO rfl rfl rfl rfl rfl aa ?_;refine k3 (o:=0) bM rfl rfl cA (by simp[Addr.add_lit]) rfl (by rw[zg];show 0<(s.length+1)*1;omega) ?_;refine aL ?_;refine Dr (my (k0 (k0 (m_ ?_))));refine aS ?_;obtain⟨d,p⟩ : ∃d:List Int,d=(-1)::List.replicate s.length 0:=⟨_,rfl⟩;have y: (fa [Value.int .i64 0] (s.length+1)).set 0 (.int .i64 (-1))=bX.all d:=by
  rw[p,FZ,mv,rI,rI];rfl
 have z:tQ d:=by
  rw[p];intro j v a;cases j with
  | zero=>cases a;exact⟨aZ,aZ⟩
  | succ j=>
   have:=dc a
   rw[List.getElem?_cons_succ] at a
   have Q:=m7 (dc a)
   omega
 refine b1 (ι:=Nat × Int × List Int) (λt=>[(0,.string (bs s)),(1,rJ),(5,.slice (some ⟨b,0,none⟩) (s.length+1) (s.length+1)),(6,.int .i64 t.2.1),(7,.int .i64 (t.1 :Int))]) (λt=>af w [] [tR b (s.length+1) t.2.2]) (λt=>t.1≤s.length∧ -1≤t.2.1∧t.2.1<t.1∧t.2.2.length=s.length+1∧tQ t.2.2) (λt=>s.length - t.1) ?_ ?_;exact λw' l=>⟨(0,-1,d),⟨bP _,by dsimp only;omega,by dsimp only;omega,by rw[p];simp,z⟩,(ea rfl rfl rfl rfl rfl),by rw[y] at l;exact l⟩
 rintro⟨i,k,L⟩ ⟨hi,r,u,n,f⟩;dsimp only at hi r u n f ⊢
 refine aJ ?_;refine aj (λA=>?_) (λA=>?_);obtain⟨B,C⟩ : ∃c,s[i]? = some c:=⟨_,bG aa⟩;refine al ?_;refine b1 (ι:=Int) (λk=>[(0,.string (bs s)),(1,rJ),(5,.slice (some ⟨b,0,none⟩) (s.length+1) (s.length+1)),(6,.int .i64 k),(7,.int .i64 (i:Int))]) (λ_=>af w [] [tR b (s.length+1) L]) (λk=> -1≤k∧k<i) (λk=>(k+1).toNat) ?_ ?_;exact λw' l=>⟨k,⟨r,u⟩,(ea rfl rfl rfl rfl rfl),l⟩
 rintro k ⟨r,u⟩;refine aD ?_;refine aj (λD=>?_) (λD=>?_);obtain⟨ck,F⟩ : ∃c,s[k.toNat]? = some c:=⟨_,bG aa⟩;obtain⟨v,a⟩ : ∃v,L[k.toNat]? = some v:=⟨_,bG aa⟩;have R:=f _ _ a
 refine ax ?_;refine bF [0,1,2,3,5,6,7,8] 2 [[(4,false,[]),(9,true,[10])]] ?_;refine ah ?_;refine aI rfl (λG H=>(ii (q:=i) underlying9 rfl rfl rfl rfl C aC)) ?_;refine ah ?_;refine aI rfl (λG H=>(ii (q:=k.toNat) underlying9 rfl rfl rfl aa F aC)) ?_;refine aq ?_;refine gx rfl rfl wM rfl (λw' _=>yQ w' B) ?_;refine ah ?_;refine gx rfl rfl wM rfl (λw' _=>yQ w' ck) ?_;refine ax ?_;refine aj (λI=>?_) (λI=>?_);have J: (bX.all L).set ((i+1)*1) (.int .i64 (k+1))=bX.all (L.set (i+1) (k+1)):=by
  rw[rI,rI,Nat.mul_one,ob]
 refine bI ?_;refine bw (q:=i+1) dO rfl rfl rfl rfl aa aa ?_;refine k3 (o:=(i+1)*1) bM rfl rfl cA (by rw[Addr.add_lit,dA]) rfl (by rw[bX.dE];show (i+1)*1<L.length*1;omega) ?_;refine aS ?_;refine r5 rfl (r6 (r5 rfl (r3 (r4 (my (m_ ?_))))));refine aS ?_;refine bg (i+1,k+1,L.set (i+1) (k+1)) ⟨by dsimp only;omega,by dsimp only;omega,by dsimp only;omega,by dsimp only;rw[fL];exact n,f.set aa aa⟩ bm (ea rfl rfl rfl rfl rfl) (λ_ h=>?_);rw[J] at h
 exact h.aw ae;refine ax ?_;refine bw (q:=k.toNat) dO rfl rfl rfl rfl aa aa ?_;refine a7 (v:= .int .i64 v) bM rfl rfl (λS K=>by have x:=K.k4 (E:=bX) (e:=3) (g:=b) (m:=s.length+1) (c:=s.length+1) (L:=L) aQ a 0 _ rfl;rw[Addr.add_lit,Addr.add_lit] at x;rw[Addr.add_lit];exact x) ?_;refine ah ?_;exact bg v ⟨aa,aa⟩ aa bR (λ_ h=>h.aw ae);refine cI ?_;exact bg (i+1,0,L) ⟨by dsimp only;omega,by dsimp only;omega,by dsimp only;omega,n,f⟩ bm bR (λ_ h=>h.aw ae);refine bB ?_;refine Xq ?_;refine ar ?_;intro T M;exact aN (b,L) ⟨n,f⟩ M
end
end Go.Proofs.YtoghoobfpcadbaaGreatDoor.Mq
