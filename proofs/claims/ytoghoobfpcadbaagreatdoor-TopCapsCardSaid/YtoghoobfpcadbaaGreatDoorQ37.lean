/- part 37 of the proof -/
import Derived.Test.YtoghoobfpcadbaaGreatDoorQ36
import Derived.Shelf.Strings.BuilderK
namespace Go.Proofs.YtoghoobfpcadbaaGreatDoor.Mq
open Go Go.RowKit Go.Proofs Tryz
theorem aO.star {ι:Type} {v:ι→Value} {l:List Chunk} {l':ι→List Chunk} {ok:ι→Prop} {w w':World} {e:Ending} (h:aO v l l' ok w e w'):aO v [aU l] (λi=>[aU (l' i)]) ok w e w':=by
 obtain⟨i,hi,rfl,a⟩:=h;have b:aA [aU l]=aA l:=by rw[w_,fR]
 have c:af w (aA l) (l' i++[]) w':=by rw[fR];exact a
 exact⟨i,hi,rfl,b▸c.close'⟩
theorem a8.jv {w:World} {l:List Chunk} (h:a8 w [aU l]):a8 w l:=by
 have:=h.open
 rwa [fR] at this
theorem C7 {b w:World} {S:List Nat} {cs:List Chunk} (h:af b S cs w) {g m k:Nat} {L:List Int} {v:Int} (d:Has cs (tR g m L)) (f:L[k]? = some v):w.cell? ((⟨g,0,none⟩ :Addr).add (k*1))=some (.int .i64 v):=by
 have a:=h.k4 (E:=bX) (e:=3) (g:=g) (m:=m) (c:=m) (L:=L) d f 0 _ rfl
 rw[Addr.add_lit,Addr.add_lit] at a
 rw[Addr.add_lit];exact a
set_option maxHeartbeats 1000000 in
theorem Xs (w:World) (t s:List UInt8) (Zi:t.length≤1000000) (C:1≤s.length∧s.length≤1000000) {ι:Type} (X:ι→Chunk) (g:Nat→ι→Prop) (N: ∀n i,g n i→g (n+1) i) (f l:Nat) (O:ad prog f)
 (P: ∀(d:World) (n:Nat) (i:ι) (a:Int),g n i→n<t.length→0≤a→a<t.length→a8 d [X i]→Calls prog f (([]:List Value)++[Value.int .i64 a]++[ptr l]).toArray d (aO (λj:Bool × ι=> .bool j.1) [X i] (λj=>[X j.2]) (λj=>g (n+1) j.2) d))
 (o:ι) (U:a8 w [X o]) (V:g 0 o):Calls prog 143 [.string (bs t),.string (bs s),rJ,.func (.func f) #[] #[ptr l]].toArray w
 (aO (λ_:ι=> .tuple #[]) [X o] (λi=>[X i]) (λi=> ∃n,n≤t.length∧g n i) w):=by
 refine bC func143 ntmps143 U ?_;refine J9 (k0 (k0 (m_ ?_)));refine aS ?_;refine aj (λQ=>?_) (λQ=>?_);exact absurd Q (λh=>by rw[h] at C;simp at C);refine al ?_;refine aY (l0:=[]) aB.nil rfl Nw rfl (λd _=>Xr d s C.2) (λ⟨ce,e⟩ W=>?_);refine aJ ?_;refine Dr (my (k0 (m_ ?_)));refine aS ?_;obtain⟨Y,D⟩:=W;dsimp only at Y D
 refine b1 (ι:=Nat × Int × ι) (λq=>[(0,.string (bs t)),(1,.string (bs s)),(2,rJ),(3,.func (.func f) #[] #[ptr l]),(8,.slice (some ⟨ce,0,none⟩) (s.length+1) (s.length+1)),(9,.int .i64 q.2.1),(10,.int .i64 (q.1 :Int))]) (λq=>af w (aA [X o]) [tR ce (s.length+1) e,X q.2.2]) (λq=>q.1≤t.length∧ -1≤q.2.1∧q.2.1<s.length∧q.2.1≤q.1∧g q.1 q.2.2) (λq=>t.length - q.1) ?_ ?_;exact λw' E=>⟨(0,0,o),⟨bP _,by dsimp only;omega,by dsimp only;omega,by dsimp only;omega,V⟩,(hq rfl rfl rfl rfl rfl rfl rfl),E⟩
 rintro⟨i,k,x⟩ ⟨hi,F,G,H,p⟩;dsimp only at hi F G H p ⊢
 refine aJ ?_;refine aj (λZ=>?_) (λZ=>?_);obtain⟨Za,Zb⟩ : ∃c,t[i]? = some c:=⟨_,bG aa⟩;refine al ?_;refine b1 (ι:=Int) (λk=>[(0,.string (bs t)),(1,.string (bs s)),(2,rJ),(3,.func (.func f) #[] #[ptr l]),(8,.slice (some ⟨ce,0,none⟩) (s.length+1) (s.length+1)),(9,.int .i64 k),(10,.int .i64 (i:Int))]) (λ_=>af w (aA [X o]) [tR ce (s.length+1) e,X x]) (λk=> -1≤k∧k<s.length∧k≤i) (λk=>(k+1).toNat) ?_ ?_;exact λw' E=>⟨k,⟨F,G,H⟩,(hq rfl rfl rfl rfl rfl rfl rfl),E⟩
 rintro k ⟨F,G,H⟩;obtain⟨ck,Zc⟩ : ∃c,0≤k→s[k.toNat]? = some c:=⟨(s[k.toNat]?).getD 0,λh=>by rw[bG aa];rfl⟩;obtain⟨v,R⟩ : ∃v,0≤k→e[k.toNat]? = some v:=⟨(e[k.toNat]?).getD 0,λh=>by rw[bG aa];rfl⟩;obtain⟨u,I⟩ : ∃u,e[(k+1).toNat]? = some u:=⟨_,bG aa⟩;have Zj:=D _ _ I
 have Zk:0≤k→ -1≤v∧v<k:=λh=>by have:=D _ _ (R h);omega
 refine aq ?_;refine bF [0,1,2,3,4,5,6,8,9,10,11] 2 [[(7,false,[]),(12,true,[13,14])]] ?_;refine ah ?_;refine no 24 rfl (λr=>?_) (λr=>?_);have Zd:=a1 r
 refine ah ?_;refine aI rfl (λZe Zf=>bY rfl rfl (r) (ii (q:=i) underlying9 rfl rfl rfl rfl Zb aC)) ?_;refine ah ?_;refine aI rfl (λZe Zf=>bY rfl rfl (r) (ii (q:=k.toNat) underlying9 rfl rfl rfl aa (Zc aa) aC)) ?_;refine ah ?_;refine gx rfl rfl wM rfl (λw' _=>yQ w' Za) ?_;refine aS ?_;refine gx rfl rfl wM rfl (λw' _=>yQ w' ck) ?_;refine al ?_;refine aj (λaK=>?_) (λaK=>?_);refine al ?_;refine bw (q:=k.toNat) dO rfl rfl rfl rfl aa aa ?_;refine a7 (v:= .int .i64 v) bM rfl rfl (λS y=>C7 (m:=s.length+1) (L:=e) y aQ (R aa)) ?_;refine ah ?_;exact bg v ⟨aa,aa,aa⟩ aa bR (λ_ h=>h.aw ae);refine hr ?_;refine aj (λZg=>?_) (λZg=>?_);refine aL ?_;refine lQ (l0:=[X x]) (first:=[]) (cap:=[ptr l]) ae rfl rfl O rfl (λd J=>P d i x _ p aa aa aa (J.bo ae)) (λ⟨b,z⟩ A=>?_);refine ah ?_;refine b6 rfl (λK=>?_) (λK=>?_);simp only[b3] at K
 refine aq ?_;refine r5 rfl (r3 (r6 (r4 (C6 ?_))));refine ar ?_;intro T B;exact aN z ⟨i+1,aa,A⟩ B;simp only[b3] at K
 refine ax ?_;refine bw (q:=(k+1).toNat) dO rfl rfl rfl rfl aa aa ?_;refine a7 (v:= .int .i64 u) bM rfl rfl (λS y=>C7 (m:=s.length+1) (L:=e) y bH I) ?_;refine aJ ?_;exact bg (i+1,u,z) ⟨by dsimp only;omega,by dsimp only;omega,by dsimp only;omega,by dsimp only;omega,A⟩ bm bR (λ_ h=>h.aw ae);refine aL ?_;exact bg (i+1,k+1,x) ⟨by dsimp only;omega,by dsimp only;omega,by dsimp only;omega,by dsimp only;omega,N _ _ p⟩ bm (hq rfl rfl rfl rfl rfl rfl rfl) (λ_ h=>h.aw ae);have Zd:=bc r
 refine Pr ?_;refine aj (λZh=>?_) (λZh=>?_);refine aL ?_;refine lQ (l0:=[X x]) (first:=[]) (cap:=[ptr l]) ae rfl rfl O rfl (λd J=>P d i x _ p aa aa aa (J.bo ae)) (λ⟨b,z⟩ A=>?_);refine ah ?_;refine b6 rfl (λM=>?_) (λM=>?_);simp only[b3] at M
 refine aq ?_;refine r5 rfl (r3 (r6 (r4 (C6 ?_))));refine ar ?_;intro T B;exact aN z ⟨i+1,aa,A⟩ B;simp only[b3] at M
 refine ax ?_;refine bw (q:=(k+1).toNat) dO rfl rfl rfl rfl aa aa ?_;refine a7 (v:= .int .i64 u) bM rfl rfl (λS y=>C7 (m:=s.length+1) (L:=e) y bH I) ?_;refine aJ ?_;exact bg (i+1,u,z) ⟨by dsimp only;omega,by dsimp only;omega,by dsimp only;omega,by dsimp only;omega,A⟩ bm bR (λ_ h=>h.aw ae);refine aL ?_;exact bg (i+1,k+1,x) ⟨by dsimp only;omega,by dsimp only;omega,by dsimp only;omega,by dsimp only;omega,N _ _ p⟩ bm (hq rfl rfl rfl rfl rfl rfl rfl) (λ_ h=>h.aw ae);refine aS ?_;refine C6 ?_;refine ar ?_;intro T B;exact aN x ⟨i,hi,p⟩ B
abbrev tS (g:Nat) (z:gj):Chunk:=aU [aE g [z.val] 122,z.au]
theorem Xt (w:World) (g:Nat) (z:gj) (m:Nat) (a:Int) (d:z.l.length≤m) (f:m≤1000000) (b:a8 w [tS g z]):Calls prog 144 (([]:List Value)++[Value.int .i64 a]++[ptr g]).toArray w
 (aO (λj:Bool × gj=> .bool j.1) [tS g z] (λj=>[tS g j.2]) (λj=>j.2.l=z.l++[a]) w):=by
 have b:=b.jv
 refine Calls.mono ?_ (λe w' h=>aO.star (l:=[aE g [z.val] 122,z.au]) (v:=λj:Bool × gj=>Value.bool j.1) (l':=λj=>[aE g [j.2.val] 122,j.2.au]) (ok:=λj=>j.2.l=z.l++[a]) h);refine bC func144 ntmps144 b ?_;refine aJ ?_;refine dG (E:=bX) _ dO rfl rfl rfl rfl rfl (λi k n=>?_);refine ew (E:=bX) dO rfl rfl rfl bi (λ_ _=>er) b7 b7 (λo p=>?_);refine aR ?_;intro q c;exact aO.bQ (true,⟨_,_,z.l++[a]⟩) rfl rfl (c.aw ae)
theorem Xu (w:World) (t s:List UInt8) (B:t.length≤1000000) (k:1≤s.length∧s.length≤1000000):Calls prog 89 [.string (bs t),.string (bs s),rJ].toArray w
 (aO (λz:gj=>z.val) [] (λz=>[z.au]) (λz=>z.l.length≤t.length∧ ∀a∈z.l,0≤a∧a<t.length) w):=by
 refine aW func89 ntmps89 ?_;refine aD ?_;refine sb il rfl (λc C D=>?_);refine aL ?_;refine hg (H':=af w [] [tS c ⟨none,0,[]⟩]) ?_ (Sub.refl _) (λx m=>((m.eO 3 bX).close (l:=[aE c [gj.val ⟨none,0,[]⟩] 122,gj.au ⟨none,0,[]⟩]) ae).aw ae);refine aY (l0:=[tS c ⟨none,0,[]⟩]) ae rfl M7 rfl (λo p=>Xs o t s aa k (tS c) (λn z=>z.l.length≤n∧ ∀a∈z.l,0≤a∧a<t.length) (λn i h=>⟨aa,h.2⟩) 144 c M8 (λq n z a f E r u v=>Calls.mono (Xt q c z 1000000 a aa aa v) (λe w' h=>h.mono (λj g=>⟨j,⟨by rw[g,b8,iC];omega,λb d=>by rw[g] at d;rcases db.1 d with d | d;exact f.2 b d;rw[ey] at d;subst d;exact⟨r,u⟩⟩,rfl,rfl⟩))) ⟨none,0,[]⟩ (p.bo ae) ⟨bP _,λa y=>by cases y⟩) (λz f=>?_);refine ah ?_;refine q3 (lc:=[aE c [z.val] 122,z.au]) bi ?_;refine aD ?_;intro F A;exact aN z ⟨by have:=f.choose_spec;omega,f.choose_spec.2.2⟩ A
theorem Xv (w:World) (t s:List UInt8) (b:t.length≤1000000) (c:1≤s.length∧s.length≤1000000):Calls prog 49 [.string (bs t),.string (bs s)].toArray w
 (aO (λz:gj=>z.val) [] (λz=>[z.au]) (λz=>z.l.length≤t.length∧ ∀a∈z.l,0≤a∧a<t.length) w):=by
 refine aW func49 ntmps49 ?_;refine aJ ?_;refine aY (l0:=[]) aB.nil rfl MK rfl (λd _=>Xu d t s b c) (λz e=>?_);refine ax ?_;intro g f;exact aN z e f
abbrev kk (f:Nat) (A:Option Addr) (n c:Nat) (fr to:bh) (b:Nat):List Value:=
 [.slice A n c,.int .i64 fr.row,.int .i64 fr.dp,.int .i64 to.row,.int .i64 to.dp,.func (.func f) #[] #[.pointer (some ⟨b,0,none⟩)]]
theorem yR {α:Type} {E:bx α} {w:World} {F:Nat→Prop} {A:Option Addr} {n c:Nat} {l:List α} (h:Rd E w F A n c l):n≤maxLen:=fs h.cap h.max
theorem J_ (w:World) (F:Nat→Prop) (A:Option Addr) (n c:Nat) (rows:List bS) (o:eu w F A n c rows) (fr to:bh) (f b k:Nat) (row:bS) (p:rows[k]? = some row):
 Calls prog 189 [.agg (kk f A n c fr to b).toArray,.int .i64 (k:Int)].toArray w (λe w'=>e= .returned (.tuple #[.int .i64 (fU fr k),.int .i64 (gT to k row.1.length)])∧Ext [] w w'):=by
 have z:=o.len
 have B:=(cY.1 p).1
 obtain⟨b2,C,m,d,D,_,t,r⟩:=o.at_ p;have j:=r.len
 have u:=yR r
 simp only[maxLen] at u
 refine aW func189 ntmps189 ?_;refine ah ?_;intro v E G;refine ax ?_;refine eq [0,1,2,3,4,5,6,7,8] 0 [[]] (af w [] [aE v (kk f A n c fr to b) 224]) mixed ab (λ_ a=>a.drew) (λ_ h=>cz) ?_;refine ah ?_;refine aI rfl (λx s=>(bw (q:=k) dM rfl rfl rfl bA aa aa aC)) ?_;refine ar ?_;refine aI rfl (λx s=>(a7 sk rfl rfl (λH y=>by subst y;exact (s.ct (t 0 _ rfl) av)) aC)) ?_;refine dx ?_;refine aj (λi=>?_) (λi=>?_);refine e4 ?_;refine aj (λg=>?_) (λg=>?_);refine eM ?_;intro l a;exact⟨by unfold fU gT;rw[ay i,ay g,j],a.ext⟩;refine bB ?_;intro l a;exact⟨by unfold fU gT;rw[ay i,ag g,j],a.ext⟩;refine bB ?_;refine aj (λg=>?_) (λg=>?_);refine eM ?_;intro l a;exact⟨by unfold fU gT;rw[ag i,ay g,j],a.ext⟩;refine bB ?_;intro l a;exact⟨by unfold fU gT;rw[ag i,ag g,j],a.ext⟩
def qv (L:List bj):Nat→Nat
 | 0=>0
 | k+1=>if (L[k]?.map (·.half))=some 3 then qv L k else k+1
theorem Xw (w:World) (F:Nat→Prop) (A:Option Addr) (n c:Nat) (l:List bj) (b:Bool) (f:Rd bJ w F A n c l):
 Calls prog 191 [.agg [.slice A n c,.bool b].toArray].toArray w (λe w'=>e= .returned (.int .i64 (qv l n:Int))∧Ext [] w w'):=by
 have t:=f.len
 have p:=yR f
 simp only[maxLen] at p
 refine aW func191 ntmps191 ?_;refine ah ?_;intro m u v;refine bI ?_;refine b1 (ι:=Nat) (λi=>[(3,.int .i64 (i:Int)),(1,.pointer (some ⟨m,0,none⟩))]) (λ_=>af w [] [aE m [.slice A n c,.bool b] 144]) (λi=>i≤n∧qv l n=qv l i) (λi=>i) ?_ ?_;exact λw a=>⟨n,⟨ch _,rfl⟩,(iJ rfl rfl),a⟩
 rintro i ⟨hi,g⟩;refine al ?_;refine aX 9 rfl (λh=>?_) (λh=>?_);have y:0<i:=by have:=a1 h;omega
 obtain⟨x,o⟩ : ∃x,l[i - 1]? = some x:=⟨l[i - 1]'aa,bG _⟩;obtain⟨z,B,_,r⟩:=f.at_ o;refine aJ ?_;refine bw (q:=(i - 1)) dB rfl rfl rfl bA aa aa ?_;refine ah ?_;refine a7 bM rfl rfl (λw' j=>j.ct (r 2 _ rfl) av) ?_;refine ax ?_;have d:qv l i=if x.half=3 then qv l (i - 1) else i:=by
  conv=>lhs;rw[show i=i - 1+1 by omega]
  rw[qv,o];simp only[ol,dI];rw[show i - 1+1=i by omega]
 refine aj (λk=>?_) (λk=>?_);rw[ay k] at d
 refine aJ ?_;exact bg (i - 1) ⟨aa,g.trans d⟩ aa (Sub.cons (by rw[show ((i - 1 :Nat):Int)=(i:Int) - 1 by omega];rfl) bR) (λw' j=>j);rw[ag k] at d
 refine bI ?_;intro s a;exact⟨by rw[g,d],a.ext⟩;refine sE ?_;intro s a;have C:=bc h
 obtain rfl:i=0:=by omega
 exact⟨by rw[g];rfl,a.ext⟩
theorem Xx {L:List bj} {a:Nat}: ∀k,k≤a→q6 L a k=none
 | 0,_=>rfl
 | k+1,h=>by rw[q6,ay aa]
theorem Ka {to:bh} {k len:Nat} (h:0≤to.dp):0≤gT to k len∧gT to k len≤(len:Int):=by
 unfold gT;split <;> omega
theorem Kb (fr:bh) (k:Nat):0≤fU fr k:=by
 unfold fU;split <;> omega
theorem Xy (w:World) (F:Nat→Prop) (A:Option Addr) (n c:Nat) (rows:List bS) (v:eu w F A n c rows) (fr to:bh) (f b l0 l1:Nat) (P:l1≤n) (Q:n≤1000000) (G:0≤to.dp):
 Calls prog 188 [.agg (kk f A n c fr to b).toArray,.agg [.int .i64 (l0:Int),.int .i64 (l1:Int)].toArray].toArray w (λe w'=>e= .returned (.agg (lS rows fr to l0 l1).enc.toArray)∧Ext [] w w'):=by
 have R:=v.len
 refine aW func188 ntmps188 ?_;refine ah ?_;intro r S T;refine ar ?_;intro s U V;refine ar ?_;intro t W X;refine ax ?_;refine dt (q:=1) underlying227 gA rfl rfl rfl bb aa ?_;refine al ?_;refine b1 (ι:=Nat) (λk=>[(5,.int .i64 ((k:Int) - 1)),(2,.pointer (some ⟨r,0,none⟩)),(3,.pointer (some ⟨s,0,none⟩)),(4,.pointer (some ⟨t,0,none⟩))]) (λ_=>af w [] [aE t [.int .i64 0,.int .i64 0] 51,aE s [.int .i64 (l0:Int),.int .i64 (l1:Int)] 227,aE r (kk f A n c fr to b) 224]) (λk=>k≤l1∧lS rows fr to l0 l1=lS rows fr to l0 k) (λk=>k) ?_ ?_;exact λw l=>⟨l1,⟨ch _,rfl⟩,(cw rfl rfl rfl rfl),l⟩
 rintro k ⟨Y,o⟩;refine aS ?_;refine dt (q:=0) underlying227 gA rfl rfl rfl bb aa ?_;refine aS ?_;refine aj (λH=>?_) (λH=>?_);obtain⟨a,rfl⟩ : ∃a,k=a+1:=⟨k - 1,aa⟩;rw[show (((a+1 :Nat):Int) - 1)=(a:Int) by omega];obtain⟨row,z⟩ : ∃row,rows[a]? = some row:=⟨rows[a]'aa,bG _⟩;obtain⟨b2,Z,m,d,Za,_,I,B⟩:=v.at_ z;have Zb:=B.len
 have J:=yR B
 simp only[maxLen] at J
 have K:lh rows a=row.1:=by unfold lh;rw[z];rfl
 obtain⟨Zc,Zd⟩:=Ka (k:=a) (len:=row.1.length) G;have Ze:=Kb fr a
 rw[lS,ag aa,K] at o
 refine aL ?_;refine ao rfl EF rfl (λw' g=>J_ w' F A n c rows (v.ext g.ext av) fr to f b a row z) ?_;refine cI ?_;refine b1 (ι:=Nat) (λx=>[(8,.int .i64 ((x:Int) - 1)),(2,.pointer (some ⟨r,0,none⟩)),(3,.pointer (some ⟨s,0,none⟩)),(4,.pointer (some ⟨t,0,none⟩)),(5,.int .i64 (a:Int)),(6,.int .i64 (fU fr a))]) (λ_=>af w [] [aE t [.int .i64 0,.int .i64 0] 51,aE s [.int .i64 (l0:Int),.int .i64 (l1:Int)] 227,aE r (kk f A n c fr to b) 224]) (λx=>x≤m∧q6 row.1 (fU fr a).toNat (gT to a row.1.length).toNat=q6 row.1 (fU fr a).toNat x) (λx=>x) ?_ ?_;exact λw l=>⟨(gT to a row.1.length).toNat,⟨aa,rfl⟩,Sub.cons (by rw[show (((gT to a row.1.length).toNat:Nat):Int)=gT to a row.1.length by omega];rfl) (ea rfl rfl rfl rfl rfl),l⟩
 rintro x ⟨Zf,h⟩;refine aL ?_;refine aj (λL=>?_) (λL=>?_);obtain⟨i,rfl⟩ : ∃i,x=i+1:=⟨x - 1,aa⟩;rw[show (((i+1 :Nat):Int) - 1)=(i:Int) by omega];obtain⟨y,E⟩ : ∃y,row.1[i]? = some y:=⟨row.1[i]'aa,bG _⟩;obtain⟨Zg,Zh,_,M⟩:=B.at_ E;rw[q6,ag aa,E] at h
 refine aJ ?_;refine bw (q:=a) dM rfl rfl rfl bA aa aa ?_;refine ar ?_;refine a7 sk rfl rfl (λw' g=>g.ct (I 0 _ rfl) av) ?_;refine ar ?_;refine bw (q:=i) dB rfl rfl rfl bA aa aa ?_;refine cy jU rfl rfl (rfl) (λw' g j u N=>g.ct (M j u N) av) ?_;refine ar ?_;intro Zi Zj Zk;refine aJ ?_;refine aX 44 rfl (λC=>?_) (λC=>?_);refine aJ ?_;refine aj (λD=>?_) (λD=>?_);refine hr ?_;intro O l;have p:li y=true:=by unfold li;rw[d_];exact⟨C,b5 D⟩
 rw[show ((some y).map li).getD false=li y from rfl,p,ay rfl] at h
 rw[h] at o
 exact⟨by rw[o];rfl,l.ext⟩;refine aL ?_;have p:li y=false:=by unfold li;rw[bO D,Bool.and_false]
 rw[show ((some y).map li).getD false=li y from rfl,p,ag aZ] at h
 exact bg i ⟨aa,h⟩ aa bR (λw' g=>g.rem bv.head);refine cI ?_;have p:li y=false:=by unfold li;rw[C,Bool.false_and]
 rw[show ((some y).map li).getD false=li y from rfl,p,ag aZ] at h
 exact bg i ⟨aa,h⟩ aa bR (λw' g=>g.rem bv.head);refine bp ?_;rw[Xx x aa] at h
 rw[h] at o
 exact bg a ⟨aa,o⟩ aa bR (λw' g=>g);refine bI ?_;intro O l;rw[PR rows fr to l0 k aa] at o
 exact⟨by rw[o];rfl,l.ext⟩
theorem Kc {L:List bj} {row:Nat} {en:bh} {a i:Nat}: ∀j,i≤j→(io L row en a i).length≤(io L row en a j).length
 | 0,h=>by rw[show i=0 by omega];exact ch _
 | j+1,h=>by
  by_cases b:i=j+1
  rw[b];exact ch _
  have:=Kc (L:=L) (row:=row) (en:=en) (a:=a) (i:=i) j aa
  rw[io,b8];omega
theorem Kd {rows:List bS} {fr to en:bh} {l0 i:Nat}: ∀j,i≤j→(jg rows fr to en l0 i).length≤(jg rows fr to en l0 j).length
 | 0,h=>by rw[show i=0 by omega];exact ch _
 | j+1,h=>by
  by_cases a:i=j+1
  rw[a];exact ch _
  have:=Kd (rows:=rows) (fr:=fr) (to:=to) (en:=en) (l0:=l0) (i:=i) j aa
  rw[jg,b8];omega
def v_ (rows:List bS) (fr to:bh) (l0 l1:Nat):List UInt8:=jg rows fr to (lS rows fr to l0 l1) l0 l1++(if (l1:Int) - 1<to.row then [10] else [])
theorem Xz (w:World) (F:Nat→Prop) (A:Option Addr) (n c:Nat) (eN:List pX) (f:Nat→List (Int × Int)) (E:Rd lf w F A n c eN) (X:n≤100000)
 (I:f 0=[]) (J: ∀k r,eN[k]? = some r→f (k+1)=nv (f k) k r.cont) (K: ∀k,k≤n→(f k).length≤k):
 Calls prog 123 [.slice A n c].toArray w (λe w'=> ∃v,e= .returned v∧Ext [] w w'∧w'.ownsRow 0 227 2 v (f n).length (mF.all (f n))∧ ∀g,v.ownBlock=some g→w.heap.size≤g):=by
 refine aW func123 ntmps123 ?_;refine jS 227 2 ?_;refine eM ?_;refine b1 (ι:=Nat × Value × List (Int × Int)) (λi=>[(3,i.2.1),(7,.slice A n c),(8,.int .i64 (n:Int)),(9,.int .i64 (i.1 :Int))]) (λi=>af w [] [own 227 2 i.2.1 i.2.2.length (mF.all i.2.2)]) (λi=>i.1≤n∧i.2.2=f i.1∧ ∀g,i.2.1.ownBlock=some g→w.heap.size≤g) (λi=>n - i.1) ?_ ?_;exact λw x=>⟨(0,.slice none 0 0,[]),⟨bP _,I.symm,by simp[Value.ownBlock]⟩,(cw rfl rfl rfl rfl),x⟩
 rintro⟨k,v,L⟩ ⟨G,b,l⟩;dsimp only at G b l ⊢
 refine al ?_;refine aj (λM=>?_) (λM=>?_);have N:k<n:=by omega
 obtain⟨r,H⟩ : ∃r,eN[k]? = some r:=⟨eN[k]'(by rw[E.len];exact N),bG _⟩;obtain⟨b2,Y,Z,O⟩:=E.cells aa;have Za:L.length≤k:=b▸K k G
 refine hE (v:=v) Has.head (λZb Zc P Zd Ze Zf m=>?_);subst P;refine aD ?_;refine bw dM rfl rfl rfl bA bb aa ?_;refine cy gP rfl rfl ((lf.len r)) (λw' a j u Q=>a.ct (O k r j u H Q) av) ?_;refine ar ?_;intro Zg Zh Zi;refine et ?_;have y:=J k r H
 refine aX 18 rfl (λz=>?_) (λz=>?_);have B:=a1 z
 refine aD ?_;refine b6 rfl (λd=>?_) (λd=>?_);obtain⟨g,rfl⟩:=m aa;obtain⟨p,ai⟩ : ∃p,L[L.length - 1]? = some p:=⟨L[L.length - 1]'aa,bG _⟩;have R:=mF.py (j:=1) (a':=(p.1,(k:Int)+1)) (v:= .int .i64 ((k:Int)+1)) ai aZ rfl
 have s:nv L k r.cont=L.set (L.length - 1) (p.1,(k:Int)+1):=by
  rw[bG aa] at ai
  simp only[dI] at ai
  have t:L≠[]:=λe=>by subst e;simp at B
  have S:L.getLast?=some p:=by rw[uf t,List.getLast_eq_getElem,ai]
  simp only[nv,S,d,if_true];rw[qG,ay aa,List.dropLast_eq_take,show L.length - 1+1=L.length by omega,List.drop_length]
 refine aD ?_;refine bw (q:=(L.length - 1)) sl rfl rfl rfl bb aa aa ?_;refine qN (q:=1) underlying227 gA rfl rfl rfl aa aa ?_;refine k3 (o:=(L.length - 1)*2+1) bM rfl rfl (by exact bn.tail bn.head) (by simp[Addr.add_lit]) rfl (by rw[mF.dE];show _<L.length*2;omega) ?_;refine aR ?_;refine bg (k+1,_,L.set (L.length - 1) (p.1,(k:Int)+1)) ⟨aa,by rw[y,←b,s],l⟩ aa (cw rfl rfl rfl rfl) (λw' a=>?_);have:=a.rem bv.head
 rw[show (L.length - 1)*2+1=(L.length - 1)*mF.sz+1 from rfl,R] at this
 simpa using this
 have s:nv L k r.cont=L++[((k:Int),(k:Int)+1)]:=by
  have t:L≠[]:=λe=>by subst e;simp at B
  simp only[nv,uf t,d];rfl
 refine aJ ?_;intro T U V;refine gv sl rfl rfl rfl bi (λ_=>by exact er) rfl (xb rfl rfl) (by simp only[maxLen];omega) aa (λC D=>?_);refine aL ?_;refine bg (k+1,C,L++[((k:Int),(k:Int)+1)]) ⟨aa,by rw[y,←b,s],λg m=>by
  rcases D g m with h | h
  exact l g h;exact h.1⟩ aa (cw rfl rfl rfl rfl) (λw' a=>?_)
 have:=a.rem bv.head
 rw[b8,bx.hk];exact this;have B:=bc z
 refine ax ?_;refine b6 rfl (λd=>?_) (λd=>?_);exact absurd d aZ;have s:nv L k r.cont=L++[((k:Int),(k:Int)+1)]:=by
  have t:L=[]:=iZ aa
  subst t;rfl
 refine aJ ?_;intro T U V;refine gv sl rfl rfl rfl bi (λ_=>by exact er) rfl (xb rfl rfl) (by simp only[maxLen];omega) aa (λC D=>?_);refine aL ?_;refine bg (k+1,C,L++[((k:Int),(k:Int)+1)]) ⟨aa,by rw[y,←b,s],λg m=>by
  rcases D g m with h | h
  exact l g h;exact h.1⟩ aa (cw rfl rfl rfl rfl) (λw' a=>?_)
 have:=a.rem bv.head
 rw[b8,bx.hk];exact this;refine bI ?_;intro Zj x;have W:k=n:=by omega
 subst W;rw[←b];exact⟨_,rfl,x.ext,x.has Has.head,l⟩
theorem XA (w:World) (F:Nat→Prop) (A:Option Addr) (n c:Nat) (rows:List bS) (a:eu w F A n c rows) (b:n≤100000):
 Calls prog 123 [.slice A n c].toArray w (λe w'=> ∃v,e= .returned v∧Ext [] w w'∧w'.ownsRow 0 227 2 v (ky rows n).length (mF.all (ky rows n))∧ ∀g,v.ownBlock=some g→w.heap.size≤g):=by
 obtain⟨eN,d,f,_⟩:=a.hC;refine Xz w F A n c eN (ky rows) d b rfl (λk r h=>?_) (λk _=>Ax rows k);have:nw rows k=r.cont:=by
  have:=aV (λl=>l[k]?) f
  simp only[eJ,h,ol] at this
  unfold nw;rw[←this];rfl
 rw[ky,this]
theorem XB {α:Type} (f:α→List UInt8) {L:List α} {i:Nat}: ((L.take i).flatMap f).length≤(L.flatMap f).length:=by
 conv=>rhs;rw[←i7 i L,ue,b8]
 omega
theorem Ke {rows:List bS} {fr to:bh} {s e:Int} {l0 l1:Nat} (a:max s fr.row=(l0:Int)) (b: (l0:Int)<e) (c: (l0:Int)≤to.row) (d: (l1:Int)=if to.row<rows.length∧to.row+1<e then to.row+1 else e):
 ip rows fr to (s,e)=v_ rows fr to l0 l1:=by
 unfold ip v_;dsimp only;rw[a,ay ⟨b,c⟩,←d];rfl
theorem XC {rows:List bS} {fr to:bh} {s e:Int} (h: ¬(max s fr.row<e∧max s fr.row≤to.row)):ip rows fr to (s,e)=[]:=ag h
def yS (f b M:Nat) {ι:Type} (X:ι→Chunk) (ok:List UInt8→ι→Prop):Prop:= ∀(a:World) (s:List UInt8) (i:ι) (t:List UInt8) (p:bh),ok s i→s.length+t.length≤M→a8 a [X i]→
 Calls prog f (([]:List Value)++[Value.string (bs t),ee p]++[ptr b]).toArray a (aO (λ_:ι=> .tuple #[]) [X i] (λj=>[X j]) (λj=>ok (s++t) j) a)
set_option maxHeartbeats 1000000 in
theorem Kf (w:World) {ι:Type} (X:ι→Chunk) (ok:List UInt8→ι→Prop) (g:ι) (A:Option Addr) (n c:Nat) (rows:List bS) (r:eu w (λk=>k∉aA [X g]) A n c rows) (fr to:bh) (f b M:Nat) (Za:ad prog f) (Zb:yS f b M X ok) (s:List UInt8) (l0 l1:Nat) (ZI:l0<l1) (Zj:l1≤n) (Zk:n≤1000000) (Zc:0≤to.dp)
 (Zl: ∀row∈rows,∀x∈row.1,x.more.length≤1000000) (o:s.length+(v_ rows fr to l0 l1).length≤M) (Zm:a8 w [X g]) (Zn:ok s g):
 Calls prog 124 [.agg (kk f A n c fr to b).toArray,.agg [.int .i64 (l0:Int),.int .i64 (l1:Int)].toArray].toArray w (aO (λ_:ι=> .tuple #[]) [X g] (λj=>[X j]) (λj=>ok (s++v_ rows fr to l0 l1) j) w):=by
 have ZJ:=r.len
 refine bC func124 ntmps124 Zm ?_;refine ah ?_;intro t ZK ZL;refine ar ?_;intro v ZM ZN;refine al ?_;refine ao rfl Nn rfl (λw' e=>Xy w' _ A n c rows (r.ext e.ext (λ_ h=>h)) fr to f b l0 l1 Zj Zk Zc) ?_;refine ar ?_;intro B ZO ZP;refine al ?_;refine dt (q:=0) underlying227 gA rfl rfl rfl bb aa ?_;refine ax ?_;unfold v_ at o ⊢
 obtain⟨en,Zd⟩ : ∃en,en=lS rows fr to l0 l1:=⟨_,rfl⟩;rw[←Zd] at o ⊢
 refine b1 (ι:=Nat × ι) (λq=>[(5,.int .i64 (q.1 :Int)),(2,ptr t),(3,ptr v),(4,ptr B)]) (λq=>af w (aA [X g]) [X q.2,aE B en.enc 51,aE v [.int .i64 (l0:Int),.int .i64 (l1:Int)] 227,aE t (kk f A n c fr to b) 224]) (λq=>(l0≤q.1∧q.1≤l1)∧ok (s++jg rows fr to en l0 q.1) q.2) (λq=>l1 - q.1) ?_ ?_;exact λw' e=>⟨(l0,g),⟨⟨ch _,by dsimp only;omega⟩,by rw[AB rows fr to en l0 l0 (ch _),fR];exact Zn⟩,(cw rfl rfl rfl rfl),(e.aw (l:=[X g,aE B en.enc 51,aE v [.int .i64 (l0:Int),.int .i64 (l1:Int)] 227,aE t (kk f A n c fr to b) 224]) (by rw[Zd];exact ae))⟩
 rintro⟨k,G⟩ ⟨⟨Zo,Zp⟩,H⟩;dsimp only at Zo Zp H ⊢
 refine aS ?_;refine dt (q:=1) underlying227 gA rfl rfl rfl bb aa ?_;refine aS ?_;refine aj (λZq=>?_) (λZq=>?_);obtain⟨row,p⟩ : ∃row,rows[k]? = some row:=⟨rows[k]'aa,bG _⟩;obtain⟨b2,N,m,d,O,P,Q,C⟩:=r.at_ p;have ZQ:=C.len
 have Zr:=yR C
 simp only[maxLen] at Zr
 have Ze:lh rows k=row.1:=by unfold lh;rw[p];rfl
 obtain⟨ZR,ZS⟩:=Ka (k:=k) (len:=row.1.length) Zc;have ZT:=Kb fr k
 have Zs:=Kd (rows:=rows) (fr:=fr) (to:=to) (en:=en) (l0:=l0) (i:=k+1) l1 aa
 rw[jg,ag aa,Ze,b8] at Zs
 refine aL ?_;refine ao rfl EF rfl (λw' e=>J_ w' _ A n c rows (r.ext e.ext (λ_ h=>h)) fr to f b k row p) ?_;refine b_ ?_;refine b1 (ι:=Nat × ι) (λq=>[(8,.int .i64 (q.1 :Int)),(2,ptr t),(3,ptr v),(4,ptr B),(5,.int .i64 (k:Int)),(7,.int .i64 (gT to k row.1.length))]) (λq=>af w (aA [X g]) [X q.2,aE B en.enc 51,aE v [.int .i64 (l0:Int),.int .i64 (l1:Int)] 227,aE t (kk f A n c fr to b) 224]) (λq=>((fU fr k).toNat≤q.1∧(q.1≤(gT to k row.1.length).toNat∨q.1=(fU fr k).toNat))∧ok (s++jg rows fr to en l0 k++io row.1 k en (fU fr k).toNat q.1) q.2) (λq=>m - q.1) ?_ ?_;exact λw' e=>⟨((fU fr k).toNat,G),⟨⟨ch _,.inr rfl⟩,by rw[xp _ _ _ _ _ (ch _),fR];exact H⟩,Sub.cons (by rw[show (((fU fr k).toNat:Nat):Int)=fU fr k by omega];rfl) (ea rfl rfl rfl rfl rfl),e⟩
 rintro⟨x,D⟩ ⟨⟨Zt,Zf⟩,E⟩;dsimp only at Zt Zf E ⊢
 refine aL ?_;refine aj (λZu=>?_) (λZu=>?_);obtain⟨y,R⟩ : ∃y,row.1[x]? = some y:=⟨row.1[x]'aa,bG _⟩;obtain⟨ZU,Zv,Zw,Zx⟩:=C.at_ R;have Zy:=Zl row (dc p) y (dc R)
 have S:io row.1 k en (fU fr k).toNat (x+1)=io row.1 k en (fU fr k).toNat x++q7 k en x y:=by rw[io,ag aa,R]
 have Zz:=Kc (L:=row.1) (row:=k) (en:=en) (a:=(fU fr k).toNat) (i:=x+1) (gT to k row.1.length).toNat aa
 rw[S,b8] at Zz
 have Zg:y.half≠3∧hO ⟨(k:Int),(x:Int)⟩ en=true→q7 k en x y=oJ y:=λh=>by unfold q7;rw[ay h]
 have Zh: ¬(y.half≠3∧hO ⟨(k:Int),(x:Int)⟩ en=true)→io row.1 k en (fU fr k).toNat (x+1)=io row.1 k en (fU fr k).toNat x:=λh=>by rw[S,q7,ag h,fR]
 have ZA: ∀z:List UInt8,q7 k en x y=z→(s++jg rows fr to en l0 k++io row.1 k en (fU fr k).toNat x).length+z.length≤M:=λz ZB=>by
  rw[←ZB];simp only[b8] at o ⊢
  omega
 refine aR ?_;intro ZV ZW ZX;refine aL ?_;refine bw (q:=k) dM rfl rfl rfl O rfl aa ?_;refine ar ?_;refine a7 sk rfl rfl (λZC T=>T.ct (Q 0 _ rfl) (by simp only[block_add];exact P)) ?_;refine ar ?_;refine bw (q:=x) dB rfl rfl rfl Zv rfl aa ?_;refine cy (vs:=y.enc) jU rfl rfl rfl (λZC T j u U=>T.ct (Zx j u U) (by simp only[block_add];exact Zw)) ?_;refine ar ?_;intro ZY ZZ Z0;refine aJ ?_;refine aX 50 rfl (λI=>?_) (λI=>?_);have V:=a1 I
 refine ax ?_;refine ao rfl uA rfl (λF J=>vN F ⟨(k:Int),(x:Int)⟩ en) ?_;refine ah ?_;refine aj (λaK=>?_) (λaK=>?_);simp only[b3] at aK
 refine bF [0,1,2,4] 2 [[(3,false,[]),(5,true,[])]] ?_;refine al ?_;refine ao rfl No rfl (λw' _=>PW w' y Zy) ?_;refine ah ?_;refine lQ (l0:=[X D]) (first:=[]) (cap:=[ptr b]) ae rfl rfl Za rfl (λF J=>Zb F _ D (oJ y) ⟨(k:Int),(x:Int)⟩ E (ZA _ (Zg ⟨V,b5 aK⟩)) (J.bo ae)) (λW K=>?_);refine aR ?_;exact bg (x+1,W) ⟨⟨by dsimp only;omega,.inl bm⟩,by dsimp only;rw[S,Zg ⟨V,b5 aK⟩,←fh];exact K⟩ bm bR (λ_ h=>h.aw ae);simp only[b3] at aK
 refine aL ?_;exact bg (x+1,D) ⟨⟨by dsimp only;omega,.inl bm⟩,(Zh (λh=>aK (a1 h.2))).symm▸E⟩ bm bR (λ_ h=>h.aw ae);have V:=bc I
 refine cI ?_;exact bg (x+1,D) ⟨⟨by dsimp only;omega,.inl bm⟩,(Zh (λh=>(bc I) h.1)).symm▸E⟩ bm bR (λ_ h=>h.aw ae);have ZD:io row.1 k en (fU fr k).toNat x=io row.1 k en (fU fr k).toNat (gT to k row.1.length).toNat:=by
  rcases Zf with h | h
  rw[show x=(gT to k row.1.length).toNat by omega];rw[h,xp _ _ _ _ _ (ch _),xp _ _ _ _ _ aa]
 refine bp ?_;exact bg (k+1,D) ⟨⟨by dsimp only;omega,by dsimp only;omega⟩,by dsimp only;rw[jg,ag aa,Ze,←fh,←ZD];exact E⟩ bm bR (λ_ h=>h.aw ae);have ZE:k=l1:=by omega
 subst ZE;obtain⟨row,p⟩ : ∃row,rows[k - 1]? = some row:=⟨rows[k - 1]'aa,bG _⟩;obtain⟨b2,N,m,d,O,P,Q,C⟩:=r.at_ p;refine aD ?_;refine dt (q:=1) underlying227 gA rfl rfl rfl bb aa ?_;refine b_ ?_;refine aj (λY=>?_) (λY=>?_);rw[ay Y] at o ⊢
 refine bF [0,1,2,3,4,5,6,7] 2 [[(8,false,[9]),(10,true,[])]] ?_;refine al ?_;refine aI rfl (λZF Zi=>(bw (q:=k - 1) dM rfl rfl rfl O aa aa aC)) ?_;refine aI rfl (λZF Zi=>(cy (vs:=[.slice N m d,.bool row.2]) gP rfl rfl rfl (λZ1 ZG j u U=>by subst ZG;exact Zi.ct (Q j u U) (by simp only[block_add];exact P)) aC)) ?_;refine aq ?_;refine ao rfl Np rfl (λw' e=>Xw w' _ N m d row.1 row.2 (C.ext e.ext (λ_ h=>h))) ?_;refine aS ?_;refine lQ (l0:=[X G]) (first:=[]) (cap:=[ptr b]) ae rfl rfl Za rfl (λF J=>Zb F _ G [10] ⟨(k:Int) - 1,(qv row.1 m:Int)⟩ H (by simp only[b8] at o ⊢;omega) (J.bo ae)) (λW K=>?_);refine aS ?_;intro ZH Z;exact aN W (by rw[fh] at K;exact K) Z;rw[ag Y,fR] at o ⊢
 refine aq ?_;intro ZH Z;exact aN G H Z
structure wa where
 A:Option Addr
 c:Nat
 l:List (Int × Int)
abbrev wa.val (r:wa):Value:= .slice r.A r.l.length r.c
abbrev wa.au (r:wa):Chunk:=Mq.au 227 mF r.A r.c r.l
theorem Kg (w:World) (F:Nat→Prop) (A:Option Addr) (n c:Nat) (rows:List bS) (g:eu w F A n c rows) (h:n≤100000):
 Calls prog 123 [.slice A n c].toArray w (aO (λz:wa=>z.val) [] (λz=>[z.au]) (λz=>z.l=ky rows n) w):=by
 refine (XA w F A n c rows g h).mono ?_;rintro e w' ⟨v,rfl,i,a,j⟩;obtain⟨m,d,rfl⟩:=wx a;refine aO.bQ ⟨m,d,ky rows n⟩ rfl rfl ⟨i,?_,λc b=>?_,λk f o=>?_⟩;simp only[aA,n_,rR,fR];exact uv _ _ _ _ _;rw[ey] at b;subst b;exact a
 simp only[aA,n_,rR,fR] at f
 have:=j k (i_.1 f)
 omega
theorem eu.apart {b w:World} {ι:Type} {X:ι→Chunk} {d y:ι} {cs:List Chunk} {A:Option Addr} {n c:Nat} {rows:List bS} (f:eu b (λk=>k∉aA [X d]) A n c rows) (h:af b (aA [X d]) cs w) (g:Has cs (X y)):eu w (λk=>k∉aA [X y]) A n c rows:=by
 refine (f.hI.ext h.ext (λk a=>a.1)).dJ (λk a e=>a.1 (h.ei k ?_ a.2));rw[show aA [X y]=(X y).cm by simp[aA]] at e
 exact e3.2 ⟨X y,g.mem,e⟩
set_option maxHeartbeats 1000000 in
theorem Kh (w:World) {ι:Type} (X:ι→Chunk) (ok:List UInt8→ι→Prop) (m:ι) (A:Option Addr) (n c:Nat) (rows:List bS) (K:eu w (λk=>k∉aA [X m]) A n c rows) (fr to:bh) (f b M:Nat) (V:ad prog f) (W:yS f b M X ok) (Zg:n≤100000) (Zw:0≤fr.row∧fr.row≤4398046511104) (Y:0≤to.dp) (Zx:0≤to.row∧to.row≤4398046511104)
 (Z: ∀row∈rows,∀x∈row.1,x.more.length≤1000000) (N: (jE rows fr to).length≤M) (Zh:a8 w [X m]) (Za:ok [] m):
 Calls prog 70 [.slice A n c,ee fr,ee to,.func (.func f) #[] #[ptr b]].toArray w (aO (λ_:ι=> .tuple #[]) [X m] (λj=>[X j]) (λj=>ok (jE rows fr to) j) w):=by
 have Zi:=K.len
 have Zj:uU fr=fr:=by unfold uU;rw[ag aa]
 unfold jE at N ⊢
 rw[Zj,Zi] at N ⊢
 refine bC func70 ntmps70 Zh ?_;refine ah ?_;intro C Zy Zz;refine ar ?_;intro D ZA ZB;refine aR ?_;refine aj (λZb=>?_) (λZb=>?_);exact absurd Zb aa;refine aD ?_;refine ao rfl uA rfl (λa d=>vN a fr to) ?_;refine ah ?_;refine b6 rfl (λF=>?_) (λF=>?_);refine ah ?_;intro Zk Q;rw[ag (λe=>by rw[e] at F;exact absurd F aZ)];exact aN m Za Q;have Zl:hO fr to=true:=by rw[Bool.not_eq_false'] at F;exact F
 rw[ay Zl] at N ⊢
 refine aR ?_;intro G ZC ZD;refine al ?_;refine aY (l0:=[]) aB.nil rfl Et rfl (λa d=>Kg a _ A n c rows (K.ext d.ext (λ_ h=>h)) Zg) (λz Zm=>?_);refine ax ?_;have Zc:=Ay rows n
 have Zn:=Ax rows n
 rw[←Zm] at N Zc Zn ⊢
 refine b1 (ι:=Nat × ι) (λq=>[(27,.int .i64 (q.1 :Int)),(0,.slice A n c),(5,ptr C),(6,ptr D),(8,ptr G),(25,z.val),(26,.int .i64 (z.l.length:Int))]) (λq=>af w (aA [X m]) [X q.2,z.au,aE G (kk f A n c fr to b) 224,aE D to.enc 51,aE C fr.enc 51]) (λq=>q.1≤z.l.length∧ok ((z.l.take q.1).flatMap (ip rows fr to)) q.2) (λq=>z.l.length - q.1) ?_ ?_;exact λw' Zo=>⟨(0,m),⟨bP _,Za⟩,(hq rfl rfl rfl rfl rfl rfl rfl),Zo.aw (l:=[X m,z.au,aE G (kk f A n c fr to b) 224,aE D to.enc 51,aE C fr.enc 51]) ae⟩
 rintro⟨i,y⟩ ⟨hi,o⟩;dsimp only at hi o ⊢
 refine al ?_;refine aj (λZp=>?_) (λZp=>?_);obtain⟨p,ai⟩ : ∃p,z.l[i]? = some p:=⟨z.l[i]'aa,bG _⟩;obtain⟨r,g,rfl,ZE,ZF⟩:=F6 z.l 0 Zc p (dc ai);have O: (z.l.take (i+1)).flatMap (ip rows fr to)=(z.l.take i).flatMap (ip rows fr to)++ip rows fr to ((r:Int),(g:Int)):=by rw[kx ai,ue];simp
 have Zd: ((z.l.take i).flatMap (ip rows fr to)).length+(ip rows fr to ((r:Int),(g:Int))).length≤M:=by
  have:=XB (ip rows fr to) (L:=z.l) (i:=i+1)
  rw[O,b8] at this
  omega
 obtain⟨l0,P⟩ : ∃l0:Nat,max (r:Int) fr.row=(l0:Int):=⟨(max (r:Int) fr.row).toNat,aa⟩;obtain⟨t,Zq⟩ : ∃t:Nat,to.row+1=(t:Int):=⟨(to.row+1).toNat,aa⟩;have Ze: ¬((l0:Int)<g∧(l0:Int)≤to.row)→ok ((z.l.take (i+1)).flatMap (ip rows fr to)) y:=λh=>by
  rw[O,XC (λe=>h (by rw[P] at e;exact e)),fR];exact o
 have Zr: ∀(B:Nat) (a:World),af w (aA [X m]) [aE B [.int .i64 (l0:Int),.int .i64 (t:Int)] 227,X y,z.au,aE G (kk f A n c fr to b) 224,aE D to.enc 51,aE C fr.enc 51] a→(l0:Int)<g∧(l0:Int)≤to.row∧to.row<n∧to.row+1<g→Calls prog 124 [.agg (kk f A n c fr to b).toArray,.agg [.int .i64 (l0:Int),.int .i64 (t:Int)].toArray].toArray a (aO (λ_:ι=> .tuple #[]) [X y] (λj=>[X j]) (λj=>ok ((z.l.take (i+1)).flatMap (ip rows fr to)) j) a):=λB a d h=>by
  have H:=Ke (rows:=rows) (fr:=fr) (to:=to) (s:=(r:Int)) (e:=(g:Int)) (l0:=l0) (l1:=t) P h.1 h.2.1 (by rw[ay ⟨aa,aa⟩];omega)
  rw[O,H];exact Kf a X ok y A n c rows (K.apart d bH) fr to f b M V W _ l0 t aa aa aa Y Z (by rw[←H];exact Zd) (d.bo ae) o
 have Zf: ∀(B:Nat) (a:World),af w (aA [X m]) [aE B [.int .i64 (l0:Int),.int .i64 (g:Int)] 227,X y,z.au,aE G (kk f A n c fr to b) 224,aE D to.enc 51,aE C fr.enc 51] a→(l0:Int)<g∧(l0:Int)≤to.row∧ ¬(to.row<n∧to.row+1<g)→Calls prog 124 [.agg (kk f A n c fr to b).toArray,.agg [.int .i64 (l0:Int),.int .i64 (g:Int)].toArray].toArray a (aO (λ_:ι=> .tuple #[]) [X y] (λj=>[X j]) (λj=>ok ((z.l.take (i+1)).flatMap (ip rows fr to)) j) a):=λB a d h=>by
  have H:=Ke (rows:=rows) (fr:=fr) (to:=to) (s:=(r:Int)) (e:=(g:Int)) (l0:=l0) (l1:=g) P h.1 h.2.1 (by rw[ag (λe=>h.2.2 ⟨aa,aa⟩)])
  rw[O,H];exact Kf a X ok y A n c rows (K.apart d bH) fr to f b M V W _ l0 g aa aa aa Y Z (by rw[←H];exact Zd) (d.bo ae) o
 refine al ?_;refine jm (E:=mF) bH sl rfl rfl rfl bb aa (λZG Zs=>?_);refine cy zx rfl rfl rfl (λZH R j u Zt=>R.fO (E:=mF) bH Zs bA j u Zt) ?_;refine ar ?_;intro B ZI ZJ;refine ax ?_;refine dt (q:=0) underlying227 gA rfl rfl rfl bb aa ?_;refine aS ?_;refine dt (q:=0) underlying227 gA rfl rfl rfl bb aa ?_;refine aS ?_;rw[P];refine ar ?_;refine dt (q:=0) underlying227 gA rfl rfl rfl bb aa ?_;refine ar ?_;refine dt (q:=1) underlying227 gA rfl rfl rfl bb aa ?_;refine ah ?_;refine aX 42 rfl (λS=>?_) (λS=>?_);have Zu:=a1 S
 refine ar ?_;refine dt (q:=0) underlying227 gA rfl rfl rfl bb aa ?_;refine bp ?_;refine aj (λaK=>?_) (λaK=>?_);refine aJ ?_;refine aX 54 rfl (λT=>?_) (λT=>?_);have Zv:=a1 T
 refine ar ?_;refine dt (q:=1) underlying227 gA rfl rfl rfl bb aa ?_;refine bI ?_;refine aj (λU=>?_) (λU=>?_);simp only[b3] at U
 refine aS ?_;refine dt (q:=1) underlying227 gA rfl rfl rfl bb aa ?_;rw[Zq];refine al ?_;refine aY (ι:=ι) (v:=λ_=> .tuple #[]) (l':=λj=>[X j]) (ok:=λj=>ok ((z.l.take (i+1)).flatMap (ip rows fr to)) j) (l0:=[X y]) ae rfl zL rfl (λa d=>by (have R:to.row<n∧to.row+1<g:=aa;exact Zr _ a d ⟨aa,aa,R⟩)) (λI J=>?_);refine aD ?_;exact bg (i+1,I) ⟨by dsimp only;omega,J⟩ bm bR (λ_ h=>h.aw ae);simp only[b3] at U
 refine ax ?_;refine aY (ι:=ι) (v:=λ_=> .tuple #[]) (l':=λj=>[X j]) (ok:=λj=>ok ((z.l.take (i+1)).flatMap (ip rows fr to)) j) (l0:=[X y]) ae rfl zL rfl (λa d=>by exact Zf _ a d ⟨aa,aa,aa⟩) (λI J=>?_);refine aD ?_;exact bg (i+1,I) ⟨by dsimp only;omega,J⟩ bm bR (λ_ h=>h.aw ae);have Zv:=bc T
 refine cI ?_;refine aY (ι:=ι) (v:=λ_=> .tuple #[]) (l':=λj=>[X j]) (ok:=λj=>ok ((z.l.take (i+1)).flatMap (ip rows fr to)) j) (l0:=[X y]) ae rfl zL rfl (λa d=>by exact Zf _ a d ⟨aa,aa,aa⟩) (λI J=>?_);refine aD ?_;exact bg (i+1,I) ⟨by dsimp only;omega,J⟩ bm bR (λ_ h=>h.aw ae);refine aD ?_;exact bg (i+1,y) ⟨by dsimp only;omega,Ze aa⟩ bm bR (λ_ h=>h.aw ae);have Zu:=bc S
 refine dx ?_;exact bg (i+1,y) ⟨by dsimp only;omega,Ze aa⟩ bm bR (λ_ h=>h.aw ae);refine ax ?_;intro Zk Q;exact aN y (by rw[ez aa] at o;exact o) Q
def tA:Shelf.Ren:=⟨λ| 166=>72 | 169=>73 | 240=>125 | 276=>192 | n=>n,λ| 0=>0 | 3=>3 | 4=>4 | 5=>5 | 9=>9 | 20=>20 | 37=>59 | 70=>79 | 72=>81 | 75=>176 | 80=>49 | 127=>229 | 164=>286 | n=>n,λn=>n⟩
theorem yu:Lays.n169 prog tA where
 mixed:=by kernel_rfl
 f169:=func73.trans (aV some ab)
 t0:=underlying0
 a0:=isAgg0
 z0:=sizeOf0
 v0:=zeroValue0
 t3:=underlying3
 a3:=isAgg3
 z3:=sizeOf3
 v3:=zeroValue3
 t9:=underlying9
 a9:=isAgg9
 z9:=sizeOf9
 v9:=zeroValue9
 t37:=underlying59
 a37:=isAgg59
 z37:=sizeOf59
 v37:=zeroValue59
 t70:=underlying79
 a70:=isAgg79
 z70:=sizeOf79
 v70:=zeroValue79
 t72:=underlying81
 a72:=isAgg81
 z72:=sizeOf81
 v72:=zeroValue81
 t127:=underlying229
 a127:=isAgg229
 z127:=sizeOf229
 v127:=zeroValue229
theorem vC:Builder.Extra prog tA where
 sizeBuilder:=by kernel_rfl
 liesBuilder:=by kernel_rfl
 t5:=underlying5
 a5:=isAgg5
 z5:=sizeOf5
 v5:=zeroValue5
 infoByte:=by kernel_rfl
 cellsByte:=by kernel_rfl
 sizeByte:=by kernel_rfl
 neB5:=a1 ab
def Ki (a:World) (b:Nat) (s:List UInt8) (w':World):Prop:=Ext [] a w'∧Lib.IsBuilderF 81 5 a.heap.size b (Lib.byteCells s) w'
theorem Ext.vD {w w' b:World} (h:Ext [] w w') (a:Below w.heap.size w' b):Ext [] w b:=
 ⟨a.os.trans h.os,a.tape.trans h.tape,a.output.trans h.output,fs h.size a.size,λk c d=>(a.block k c).trans (h.block k c d)⟩
theorem XD (a:World) (b:Nat) (s:List UInt8) (w':World) (h:Ki a b s w'):
 Calls prog 73 [.pointer (some ⟨b,0,none⟩)].toArray w' (λe c=>e= .returned (.string (bs s))∧Ext [] a c):=by
 refine Calls.mono (Any.Builder_String_any_k yu vC a.heap.size b s w' h.2 h.1.size) ?_;rintro e c ⟨rfl,_,d,_⟩;exact⟨rfl,Ext.vD h.1 d⟩
theorem Ce:ad prog 73:=ad.of func73 ab ab
end Go.Proofs.YtoghoobfpcadbaaGreatDoor.Mq
