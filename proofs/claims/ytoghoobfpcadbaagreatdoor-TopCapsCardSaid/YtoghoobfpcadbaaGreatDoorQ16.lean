/- part 16 of the proof -/
import Derived.Test.YtoghoobfpcadbaaGreatDoorQ15
import Derived.Shelf.Small.Bits
import Derived.Shelf.Spec.TrailingZeros
namespace Go.Proofs.YtoghoobfpcadbaaGreatDoor.Mq.cO
open Go Go.RowKit Go.Proofs Tryz
def GJ:Shelf.Ren:=⟨λ| 29=>393 | n=>n,λ| 0=>0 | 3=>3 | 4=>4 | 5=>5 | 22=>32 | 25=>250 | 54=>436 | n=>n,λ| 1=>0 | n=>n⟩
theorem Q4:Lays7.n29 prog GJ where
 mixed:=by kernel_rfl
 f29:=func393.trans (aV some ab)
 t0:=underlying0
 a0:=isAgg0
 z0:=sizeOf0
 v0:=zeroValue0
 i0:=by kernel_rfl
 t3:=underlying3
 a3:=isAgg3
 z3:=sizeOf3
 v3:=zeroValue3
 i3:=by kernel_rfl
 t4:=underlying4
 a4:=isAgg4
 z4:=sizeOf4
 v4:=zeroValue4
 i4:=by kernel_rfl
 t5:=underlying5
 a5:=isAgg5
 z5:=sizeOf5
 v5:=zeroValue5
 i5:=by kernel_rfl
 t22:=underlying32
 a22:=isAgg32
 z22:=sizeOf32
 v22:=zeroValue32
 i22:=by kernel_rfl
 t25:=underlying250
 a25:=isAgg250
 z25:=sizeOf250
 v25:=zeroValue250
 i25:=by kernel_rfl
 t54:=underlying436
 a54:=isAgg436
 z54:=sizeOf436
 g1:=by kernel_rfl
def Q5:Shelf.Ren:=⟨λ| 129=>215 | 134=>394 | n=>n,λ| 3=>3 | 4=>4 | 5=>5 | 9=>9 | 46=>250 | 53=>32 | n=>n,λn=>n⟩
theorem Q6:Lays.n134 prog Q5 where
 mixed:=by kernel_rfl
 f129:=func215.trans (aV some ab)
 f134:=func394.trans (aV some ab)
 t3:=underlying3
 a3:=isAgg3
 z3:=sizeOf3
 v3:=zeroValue3
 t4:=underlying4
 a4:=isAgg4
 z4:=sizeOf4
 v4:=zeroValue4
 t5:=underlying5
 a5:=isAgg5
 z5:=sizeOf5
 v5:=zeroValue5
 t9:=underlying9
 a9:=isAgg9
 z9:=sizeOf9
 v9:=zeroValue9
 t46:=underlying250
 a46:=isAgg250
 z46:=sizeOf250
 v46:=zeroValue250
 t53:=underlying32
 a53:=isAgg32
 z53:=sizeOf32
 v53:=zeroValue32
def iP:bx Nat:=⟨λw=>[.int .u64 (w:Int)],1,λ_=>rfl,λ_=>by repeat (first | exact aH.nil | refine aH.cons rfl ?_)⟩
structure e5 where
 A:Option Addr
 m:Nat
 c:Nat
 ws:List Nat
abbrev xJ (n:Nat) (i:e5):List Value:=[.slice i.A i.m i.c,.int .i64 (n:Int)]
def eC (g n:Nat) (i:e5):Chunk:=both (aE g (xJ n i) 255) (own 32 1 (.slice i.A i.m i.c) i.m (iP.all i.ws))
structure hT (bs:List Bool) (i:e5):Prop where
 nG:cW i.ws bs
 le:bs.length≤1000
 len:i.ws.length=i.m
 m16:i.m≤16
structure gD (w:World) (g n:Nat) (i:e5):Prop where
 c0:w.cell? ⟨g,0,none⟩=some (.slice i.A i.m i.c)
 c1:w.cell? ⟨g,1,none⟩=some (.int .i64 (n:Int))
 rd:Rd iP w (λ_=>True) i.A i.m i.c i.ws
theorem gD.of {w:World} {g n:Nat} {i:e5} (h: (eC g n i).pred w) (b:i.ws.length=i.m):gD w g n i:=by
 have a:w.heap[g]? = some (.cells (xJ n i).toArray 255 (0,0)):=h.1
 obtain⟨A,c,d,e⟩:=Rd.ga (E:=iP) (l:=i.ws) h.2 b;injection d with f k j
 subst f j;exact⟨by rw[cell_of_row w g 0 _ _ _ a];rfl,by rw[cell_of_row w g 1 _ _ _ a];rfl,e.dJ (λ_ _=>aT)⟩
theorem gD.ext {w w':World} {g n:Nat} {i:e5} (h:gD w g n i) (a:Ext [] w w'):gD w' g n i:=
 ⟨by rw[a.cell (World.block_lt_of_cell? _ _ h.c0) av];exact h.c0,by rw[a.cell (World.block_lt_of_cell? _ _ h.c1) av];exact h.c1,h.rd.ext a av⟩
abbrev ptr (g:Nat):Value:= .pointer (some ⟨g,0,none⟩)
theorem uP (w:World) (n:Int):Calls prog 150 [.int .i64 n].toArray w (λe w'=>e= .returned (.bool (decide (2≤n∧n≤1000)))∧Ext [] w w'):=by
 refine aW func150 ntmps150 ?_;refine aR ?_;refine aX 5 rfl (λh=>?_) (λh=>?_);have ai:=a1 h
 refine aR ?_;intro b a;exact⟨by simp[ai],a.ext⟩;have ai:=bc h
 refine aL ?_;intro b a;exact⟨by simp[ai],a.ext⟩
theorem GK (w:World) (g n:Nat) (i:e5) (h:gD w g n i):Calls prog 372 [ptr g].toArray w (λe w'=>e= .returned (.int .i64 (n:Int))∧Ext [] w w'):=by
 refine aW func372 ntmps372 ?_;refine hr ?_;refine a7 bM rfl rfl (λw' a=>a.ct h.c1 av) ?_;refine ax ?_;intro c b;exact⟨rfl,b.ext⟩
theorem GL (w:World) (g n:Nat) (i:e5) (h:gD w g n i) (x:Int):Calls prog 288 [ptr g,.int .i64 x].toArray w (λe w'=>e= .returned (.bool (decide (0≤x∧x<(n:Int))))∧Ext [] w w'):=by
 refine aW func288 ntmps288 ?_;refine aR ?_;refine aX 7 rfl (λa=>?_) (λa=>?_);have b:=a1 a
 refine ax ?_;refine ao rfl E7 rfl (λw' d=>GK w' g n i (h.ext d.ext)) ?_;refine aL ?_;intro f c;exact⟨by simp[b],c.ext⟩;have b:=bc a
 refine aR ?_;intro f c;exact⟨by simp[b],c.ext⟩
theorem Q7 (v y:Nat): (v:Int)/2 ^ min ((y:Int)%64).toNat IntKind.u64.bits=((v/2 ^ (y%64):Nat):Int):=by
 have e:min ((y:Int)%64).toNat IntKind.u64.bits=y%64:=by simp only[IntKind.bits];omega
 rw[e];simp
theorem xK {bs:List Bool} {i:e5} (h:hT bs i) {x:Nat} (b:x<bs.length): ∃v,i.ws[x/64]? = some v∧v<2 ^ 64∧x/64<i.m:=by
 have c:=h.nG.ei
 have a:x/64<i.ws.length:=by omega
 exact⟨i.ws[x/64],bG a,h.nG.lt _ (rV a),by have:=h.len;omega⟩
theorem GM (y:Nat):IntKind.u64.wrap (1*2 ^ min ((y:Int)%64).toNat IntKind.u64.bits)=((2 ^ (y%64):Nat):Int):=by
 have e:min ((y:Int)%64).toNat IntKind.u64.bits=y%64:=by simp only[IntKind.bits];omega
 have h:2 ^ (y%64)<2 ^ 64:=qK aZ (iF _ aZ)
 rw[e,Int.one_mul];have: ((2 :Int) ^ (y%64))=((2 ^ (y%64):Nat):Int):=by simp
 rw[this];generalize 2 ^ (y%64)=u at *
 simp[IntKind.wrap,IntKind.bits,IntKind.signed]
 omega
theorem GN {v:Nat} (h:v<2 ^ 64):IntKind.u64.wrap (v:Int)=(v:Int):=by
 simp[IntKind.wrap,IntKind.bits,IntKind.signed];omega
theorem GO (y:Nat):2 ^ (y%64)<2 ^ 64:=qK aZ (iF _ aZ)
theorem GP {bs:List Bool} {x:Int} {a:Bool} (h: ¬(0≤x∧x<(bs.length:Int))):mI bs x a=bs:=ag h
theorem GQ {b w:World} {S:List Nat} {cs:List Chunk} {e a m c q v:Nat} {ws:List Nat} (h:af b S cs w) (d:Has cs (own e 1 (.slice (some ⟨a,0,none⟩) m c) m (iP.all ws))) (f:ws[q]? = some v):
 w.cell? ((⟨a,0,none⟩ :Addr).add (q*1))=some (.int .u64 (v:Int)):=by
 rw[Addr.add_lit,dA,Nat.mul_one];refine h.DE d ?_;have:=iP.lM (j:=0) (u:= .int .u64 (v:Int)) f rfl
 simpa [iP] using this
abbrev ej (g n:Nat) (i:e5) (a:List Bool) (w:World):=la (λ_=>Value.tuple #[]) (eC g n i) (λj=>eC g n j) (λj=>hT a j) w
theorem GR (w:World) (g:Nat) (bs:List Bool) (i:e5) (d:hT bs i) (h: (eC g bs.length i).pred w) (C: (eC g bs.length i).cm.Nodup) (x:Int) (J: -9223372036854775808≤x∧x≤9223372036854775807):
 Calls prog 198 [ptr g,.int .i64 x].toArray w (ej g bs.length i (mI bs x true) w):=by
 have K:=gD.of h d.len
 refine calls (n:=20) func198 rfl ntmps198 rfl ?_;refine cL (H':=af w (eC g bs.length i).cm [eC g bs.length i]) ?_ (Sub.refl _) (λx D=>af.qP D h C);refine aS ?_;refine ao rfl EX rfl (λw' E=>GL w' g _ i (gD.of (E.has Has.head) d.len) x) ?_;refine aq ?_;refine aj (λp=>?_) (λp=>?_);obtain⟨y,rfl⟩ : ∃y:Nat,x=(y:Int):=⟨x.toNat,aa⟩;have s:y<bs.length:=by omega
 obtain⟨v,k,t,b⟩:=xK d s;have u:=d.len
 obtain⟨A,m,c,ws⟩:=i;dsimp only at k b u
 refine w8 bv.head ?_;refine hE (Has.tail Has.head) (λL c' F _ _ _ G=>?_);injection F with l M H
 subst l H;obtain⟨a,z⟩:=G (by show 0<m;omega);dsimp only at z
 subst z;have B:=iP.py (j:=0) (a':=v ||| 2 ^ (y%64)) (v:= .int .u64 ((v ||| 2 ^ (y%64):Nat):Int)) k aZ rfl
 refine eq [0,1,2,3,4,5,6,7,8,9,10,11,12] 1 [[(13,true,[])]] (af w (eC g bs.length ⟨some ⟨a,0,none⟩,m,c,ws⟩).cm [aE g (xJ bs.length ⟨some ⟨a,0,none⟩,m,c,ws⟩) 255,own 32 1 (.slice (some ⟨a,0,none⟩) m c) m (iP.all ws)]) mixed ab (λ_ e=>e.drew) (λ_ h=>cz) ?_;refine ax ?_;refine aI rfl (λf b=>(sd rfl rfl rfl aa aa aa aC)) ?_;refine aI rfl (λf b=>(bw (q:=y/64) qV rfl rfl rfl bb aa aa aC)) ?_;refine aI rfl (λf b=>(a7 pF rfl rfl (λN l=>by subst l;exact (GQ b (Has.tail Has.head) k)) aC)) ?_;refine ar ?_;refine aI rfl (λf b=>(nb rfl rfl rfl aa aa aC)) ?_;refine aI rfl (λf b=>(oC (r:=((2 ^ (y%64):Nat):Int)) rfl rfl rfl aa (GM y) aC)) ?_;refine aI rfl (λf b=>(mD (r:=((v ||| 2 ^ (y%64):Nat):Int)) rfl rfl rfl (or_eq (m:=v) (n:=2 ^ (y%64)) rfl rfl t (GO y) (GN (GI t (iF _ aZ)))) aC)) ?_;refine aI rfl (λf b=>(bw (q:=y/64) qV rfl rfl rfl bb aa aa aC)) ?_;refine aq ?_;refine k3 (o:=y/64) pF rfl rfl er (by simp[Addr.add_lit]) rfl (by rw[iP.dE];show _<ws.length*1;omega) ?_;refine aS ?_;intro I e;rw[show y/64*iP.sz+0=y/64 by simp[iP]] at B
 dsimp only at e
 rw[B] at e
 refine la.of (⟨some ⟨a,0,none⟩,m,c,ws.set (y/64) (v ||| 2 ^ (y%64))⟩ :e5) ⟨d.nG.set k s,by rw[mJ];exact d.le,by simpa using u,d.m16⟩ (e.both bv.head bv.head);refine aq ?_;intro I e;rw[GP p];exact la.of i d e
theorem GS (w:World) (g:Nat) (bs:List Bool) (i:e5) (d:hT bs i) (h: (eC g bs.length i).pred w) (C: (eC g bs.length i).cm.Nodup) (x:Int) (J: -9223372036854775808≤x∧x≤9223372036854775807):
 Calls prog 197 [ptr g,.int .i64 x].toArray w (ej g bs.length i (mI bs x false) w):=by
 have K:=gD.of h d.len
 refine calls (n:=20) func197 rfl ntmps197 rfl ?_;refine cL (H':=af w (eC g bs.length i).cm [eC g bs.length i]) ?_ (Sub.refl _) (λx D=>af.qP D h C);refine aS ?_;refine ao rfl EX rfl (λw' E=>GL w' g _ i (gD.of (E.has Has.head) d.len) x) ?_;refine aq ?_;refine aj (λp=>?_) (λp=>?_);obtain⟨y,rfl⟩ : ∃y:Nat,x=(y:Int):=⟨x.toNat,aa⟩;have s:y<bs.length:=by omega
 obtain⟨v,k,t,b⟩:=xK d s;have u:=d.len
 obtain⟨A,m,c,ws⟩:=i;dsimp only at k b u
 refine w8 bv.head ?_;refine hE (Has.tail Has.head) (λL c' F _ _ _ G=>?_);injection F with l M H
 subst l H;obtain⟨a,z⟩:=G (by show 0<m;omega);dsimp only at z
 subst z;have B:=iP.py (j:=0) (a':=v &&& (18446744073709551615 - 2 ^ (y%64))) (v:= .int .u64 ((v &&& (18446744073709551615 - 2 ^ (y%64)):Nat):Int)) k aZ rfl
 refine eq [0,1,2,3,4,5,6,7,8,9,10,11,12] 1 [[(13,true,[])]] (af w (eC g bs.length ⟨some ⟨a,0,none⟩,m,c,ws⟩).cm [aE g (xJ bs.length ⟨some ⟨a,0,none⟩,m,c,ws⟩) 255,own 32 1 (.slice (some ⟨a,0,none⟩) m c) m (iP.all ws)]) mixed ab (λ_ e=>e.drew) (λ_ h=>cz) ?_;refine ax ?_;refine aI rfl (λf b=>(sd rfl rfl rfl aa aa aa aC)) ?_;refine aI rfl (λf b=>(bw (q:=y/64) qV rfl rfl rfl bb aa aa aC)) ?_;refine aI rfl (λf b=>(a7 pF rfl rfl (λN l=>by subst l;exact (GQ b (Has.tail Has.head) k)) aC)) ?_;refine ar ?_;refine aI rfl (λf b=>(nb rfl rfl rfl aa aa aC)) ?_;refine aI rfl (λf b=>(oC (r:=((2 ^ (y%64):Nat):Int)) rfl rfl rfl aa (GM y) aC)) ?_;refine aI rfl (λf b=>(uK (r:=((v &&& (18446744073709551615 - 2 ^ (y%64)):Nat):Int)) rfl rfl rfl (FA (m:=v) (n:=2 ^ (y%64)) rfl rfl t (GO y) (GN (qH Nat.and_le_left t))) aC)) ?_;refine aI rfl (λf b=>(bw (q:=y/64) qV rfl rfl rfl bb aa aa aC)) ?_;refine aq ?_;refine k3 (o:=y/64) pF rfl rfl er (by simp[Addr.add_lit]) rfl (by rw[iP.dE];show _<ws.length*1;omega) ?_;refine aS ?_;intro I e;rw[show y/64*iP.sz+0=y/64 by simp[iP]] at B
 dsimp only at e
 rw[B] at e
 refine la.of (⟨some ⟨a,0,none⟩,m,c,ws.set (y/64) (v &&& (18446744073709551615 - 2 ^ (y%64)))⟩ :e5) ⟨d.nG.QZ k s,by rw[mJ];exact d.le,by simpa using u,d.m16⟩ (e.both bv.head bv.head);refine aq ?_;intro I e;rw[GP p];exact la.of i d e
theorem GT: ∀m:Nat,iP.all (List.replicate m 0)=List.replicate m (Value.int .u64 0)
 | 0=>rfl
 | m+1=>by rw[mv,mv,←GT m];rfl
theorem AI (w:World) (g:Nat) (bs:List Bool) (i:e5) (b:hT bs i) (h: (eC g bs.length i).pred w) (f: (eC g bs.length i).cm.Nodup) (ai:0<bs.length):
 Calls prog 265 [ptr g].toArray w (ej g bs.length i (List.replicate bs.length false) w):=by
 refine calls (n:=8) func265 rfl ntmps265 rfl ?_;refine cL (H':=af w (eC g bs.length i).cm [eC g bs.length i]) ?_ (Sub.refl _) (λx j=>af.qP j h f);refine aD ?_;have k:=b.nG.ei
 have l:=b.len
 obtain⟨A,m,c,ws⟩:=i;dsimp only at k l
 refine w8 bv.head ?_;refine hE (Has.tail Has.head) (λt c' o _ _ _ p=>?_);injection o with q u r
 subst q r;obtain⟨a,d⟩:=p (by show 0<m;omega);dsimp only at d
 subst d;have s:=GT m
 refine ax ?_;refine Pe underlying253 zeroValue32 rfl rfl (show 0<m by omega) rfl er ?_;refine aq ?_;intro v e;rw[←s] at e
 exact la.of (⟨some ⟨a,0,none⟩,m,c,List.replicate m 0⟩ :e5) ⟨cW.fa m bs.length aa,by simpa using b.le,by simp,b.m16⟩ (e.both bv.head bv.head)
def mK (w:World):Prop:=TabAt (GJ.g 1) Lib.deBruijn64tab w
theorem mK.ext {w w':World} (h:mK w) (b:Ext [] w w'):mK w':=λj a=>by
 rw[b.cell (World.block_lt_of_cell? _ _ (h j a)) av];exact h j a
theorem Q8 (w:World) (a:mK w) (v:Nat) (b:v<2 ^ 64):Calls prog 393 [.int .u64 (v:Int)].toArray w (λe w'=>e= .returned (.int .i64 (Lib.ctz 64 v:Int))∧Ext [] w w'):=
 (Any7.bits_TrailingZeros64 Q4 v b w (λ_=>a)).mono λ_ _ ⟨c,d⟩=>⟨c,d▸Ext.refl _ _⟩
theorem Q9 (w:World) (v:Nat) (c:v<2 ^ 64):Calls prog 394 [.int .u64 (v:Int)].toArray w (λe w'=>e= .returned (.int .i64 (64 - (Lib.bitLen v:Int)))∧Ext [] w w'):=
 (Any.bits_LeadingZeros64 Q6 (v:Int) w aa aa).mono λ_ _ ⟨a,b⟩=>⟨by rw[a,hc],b▸Ext.refl _ _⟩
theorem Q_ (w:World) (o:mK w) (g:Nat) (bs:List Bool) (i:e5) (d:hT bs i) (h:gD w g bs.length i) (x:Nat) (J:x<bs.length):
 Calls prog 324 [ptr g,.int .i64 (x:Int)].toArray w (λe w'=>e= .returned (.int .i64 (jk bs x:Int))∧Ext [] w w'):=by
 have K:=d.le
 refine aW func324 ntmps324 ?_;refine b_ ?_;refine b1 (ι:=Nat) (λy=>[(0,ptr g),(1,.int .i64 (y:Int))]) (λ_=>af w [] []) (λy=>x<y∧y≤1100∧ ∀z,x<z→z<y→ce bs z=false) (λy=>1100 - y) ?_ ?_;exact λw b=>⟨x+1,⟨aa,aa,by intro z c f;omega⟩,(iJ rfl rfl),b⟩
 rintro y ⟨p,L,j⟩;refine aD ?_;refine a7 bM rfl rfl (λw' a=>a.ct h.c1 av) ?_;refine ah ?_;refine aj (λs=>?_) (λs=>?_);have t:y<bs.length:=by omega
 obtain⟨v,k,A,n⟩:=xK d t;obtain⟨b2,B,_,C⟩:=h.rd.at_ k;have D:v/2 ^ (y%64)<2 ^ 64:=qH (Nat.div_le_self _ _) A
 refine aJ ?_;refine a7 D0 rfl rfl (λw' a=>a.ct h.c0 av) ?_;refine ar ?_;refine sd rfl rfl rfl aa aa aa ?_;refine bw (q:=y/64) qV rfl rfl rfl B aa aa ?_;refine a7 pF rfl rfl (λw' a=>a.ct (C 0 _ rfl) av) ?_;refine ar ?_;refine nb rfl rfl rfl aa aa ?_;refine pT (r:=((v/2 ^ (y%64):Nat):Int)) rfl rfl rfl aa (Q7 v y) ?_;refine aJ ?_;generalize l:v/2 ^ (y%64)=u at *
 refine aj (λE=>?_) (λE=>?_);have m:v/2 ^ (y%64)≠0:=by rw[l];omega
 obtain⟨c,f,F⟩:=d.nG.Q0 k p j m;rw[l] at c f F
 refine ar ?_;refine eq [0,1,4,5,6,7,8] 1 [[(2,false,[3,9,10])]] (af w [] []) mixed ab (λ_ b=>b.drew) (λ_ h=>cz) ?_;refine ax ?_;refine aI rfl (λM n=>(a7 bM rfl rfl (λN G=>by subst G;exact (n.ct h.c1 av)) aC)) ?_;refine ah ?_;refine ao rfl OJ rfl (λw' a=>Q8 w' (o.ext a.ext) u D) ?_;refine bV (λ_=>True) (λ_ h=> .inr cz) (λ_ h=>aT) ?_;refine bI ?_;intro H b;refine⟨?_,b.ext⟩;rw[c];congr 2
 omega
 have m:v/2 ^ (y%64)=0:=by rw[l];omega
 have I:=d.nG.Q1 k j m
 refine ax ?_;refine sd rfl rfl rfl aa aa aa ?_;refine ar ?_;refine k1 rfl rfl rfl (wrap64 aa aa) ?_;refine aq ?_;refine bg ((y/64+1)*64) ⟨aa,aa,I⟩ aa (iJ rfl rfl) (λw' a=>a);refine aR ?_;refine a7 bM rfl rfl (λw' a=>a.ct h.c1 av) ?_;refine al ?_;intro H b;refine⟨?_,b.ext⟩;rw[GE (λz c f=>j z c aa)];congr 2
 omega
theorem Ra (v y:Nat):IntKind.u64.wrap ((v:Int)*2 ^ min (63 - (y:Int)%64).toNat IntKind.u64.bits)=((v*2 ^ (63 - y%64)%2 ^ 64 :Nat):Int):=by
 have e:min (63 - (y:Int)%64).toNat IntKind.u64.bits=63 - y%64:=by simp only[IntKind.bits];omega
 rw[e];have: ((v:Int)*2 ^ (63 - y%64))=((v*2 ^ (63 - y%64):Nat):Int):=by simp
 rw[this];generalize v*2 ^ (63 - y%64)=u
 simp[IntKind.wrap,IntKind.bits,IntKind.signed]
theorem Rb (w:World) (g:Nat) (bs:List Bool) (i:e5) (c:hT bs i) (h:gD w g bs.length i) (x:Nat) (F:x<bs.length):
 Calls prog 326 [ptr g,.int .i64 (x:Int)].toArray w (λe w'=>e= .returned (.int .i64 (iO bs x:Int))∧Ext [] w w'):=by
 have G:=c.le
 refine aW func326 ntmps326 ?_;refine b_ ?_;refine b1 (ι:=Nat) (λy=>[(0,ptr g),(1,.int .i64 ((y:Int) - 1))]) (λ_=>af w [] []) (λy=>y≤x∧ ∀z,y≤z→z<x→ce bs z=false) (λy=>y) ?_ ?_;exact λw b=>⟨x,⟨ch _,by intro z f d;omega⟩,(iJ rfl rfl),b⟩
 rintro j ⟨H,l⟩;refine aD ?_;refine aj (λo=>?_) (λo=>?_);obtain⟨y,rfl⟩ : ∃y,j=y+1:=⟨j - 1,aa⟩;rw[show ((y+1 :Nat):Int) - 1=(y:Int) by omega];have p:y<bs.length:=by omega
 obtain⟨v,k,I,J⟩:=xK c p;obtain⟨b2,s,_,t⟩:=h.rd.at_ k;have m:v*2 ^ (63 - y%64)%2 ^ 64<2 ^ 64:=iF _ aZ
 refine aJ ?_;refine a7 D0 rfl rfl (λw' a=>a.ct h.c0 av) ?_;refine ar ?_;refine sd rfl rfl rfl aa aa aa ?_;refine bw (q:=y/64) qV rfl rfl rfl s aa aa ?_;refine a7 pF rfl rfl (λw' a=>a.ct (t 0 _ rfl) av) ?_;refine ar ?_;refine nb rfl rfl rfl aa aa ?_;refine ar ?_;refine oC (r:=((v*2 ^ (63 - y%64)%2 ^ 64 :Nat):Int)) rfl rfl rfl aa (Ra v y) ?_;refine aJ ?_;have n: ∀z,y<z→z<x→ce bs z=false:=λz f d=>l z aa d
 have A:=c.nG.Q2 k (show y<x by omega) n
 have B:=c.nG.Q3 k n
 generalize K:v*2 ^ (63 - y%64)%2 ^ 64=u at *
 refine aj (λC=>?_) (λC=>?_);have f:=A aa
 have L:=Lib.bitLen_le u 64 aZ m
 refine aS ?_;refine ao rfl OK rfl (λw' a=>Q9 w' u m) ?_;refine bp ?_;intro D b;refine⟨?_,b.ext⟩;rw[f];have E:=B aa
 refine ax ?_;refine sd rfl rfl rfl aa aa aa ?_;refine k1 rfl rfl rfl (wrap64 aa aa) ?_;refine ah ?_;refine bg (64*(y/64)) ⟨aa,E⟩ aa (Sub.cons bb (Sub.cons ?_ Sub.nil)) (λw' a=>a);show some _=some _
 congr 2
 omega
 obtain rfl:j=0:=by omega
 refine bB ?_;intro D b;refine⟨?_,b.ext⟩;rw[QX (λz d=>l z (bP _) d)];rfl
theorem GU (w:World) (g n:Nat) (i:e5) (h:gD w g n i) (v:0<n∧n≤1000) (c:FuncId) (o:ad prog c) (cap:List Value) (F:Nat→Nat) (p: ∀x,x<n→F x<n)
 (q: ∀w',Ext [] w w'→ ∀x,x<n→Calls prog c ([]++[Value.int .i64 (x:Int)]++cap).toArray w' (λe r=>e= .returned (.int .i64 (F x:Int))∧Ext [] w' r)) (x k:Int):
 Calls prog 322 [ptr g,.int .i64 x,.int .i64 k,.func (.func c) ([]:List Value).toArray cap.toArray].toArray w (λe w'=>e= .returned (.int .i64 (nF F n x k:Int))∧Ext [] w w'):=by
 obtain⟨N,f⟩ : ∃N:Nat,min (max 0 k) (n:Int)=(N:Int):=⟨(min (max 0 k) (n:Int)).toNat,aa⟩;obtain⟨b,l⟩ : ∃b:Nat,max 0 (min x ((n:Int) - 1))=(b:Int):=⟨(max 0 (min x ((n:Int) - 1))).toNat,aa⟩;have m:nF F n x k=iter F N b:=by
  unfold nF xG;rw[f,l,hc,hc]
 have s:b<n:=by omega
 rw[m];clear m;refine aW func322 ntmps322 ?_;refine hs ?_;refine a7 bM rfl rfl (λw' a=>a.ct h.c1 av) ?_;refine b_ ?_;refine a7 bM rfl rfl (λw' a=>a.ct h.c1 av) ?_;refine ax ?_;rw[f,l];refine b1 (ι:=Nat) (λj=>[(1,.int .i64 (iter F j b:Int)),(3,.func (.func c) ([]:List Value).toArray cap.toArray),(25,.int .i64 (N:Int)),(26,.int .i64 (j:Int))]) (λ_=>af w [] []) (λj=>j≤N) (λj=>N - j) ?_ ?_;exact λw d=>⟨0,bP _,(cw rfl rfl rfl rfl),d⟩
 intro j y;have t:=u_ p j b s
 refine al ?_;refine aj (λu=>?_) (λu=>?_);refine aD ?_;refine gx (first:=[]) rfl rfl o rfl (λw' a=>q w' a.ext _ t) ?_;refine aL ?_;exact bg (j+1) aa aa bR (λw' a=>a);obtain rfl:j=N:=by omega
 refine bI ?_;intro z d;exact⟨rfl,d.ext⟩
theorem Rc (w:World) (c:mK w) (a g:Nat) (bs:List Bool) (i:e5) (d:hT bs i) (h:gD w g bs.length i) (f:w.cell? ⟨a,0,none⟩=some (ptr g)) (x:Nat) (j:x<bs.length):
 Calls prog 323 [.int .i64 (x:Int),ptr a].toArray w (λe w'=>e= .returned (.int .i64 (jk bs x:Int))∧Ext [] w w'):=by
 refine aW func323 ntmps323 ?_;refine aD ?_;refine a7 zt rfl rfl (λw' b=>b.ct f av) ?_;refine ar ?_;refine ao rfl N9 rfl (λw' b=>Q_ w' (c.ext b.ext) g bs i d (h.ext b.ext) x j) ?_;refine ax ?_;intro l k;exact⟨rfl,k.ext⟩
theorem Re (w:World) (a g:Nat) (bs:List Bool) (i:e5) (c:hT bs i) (h:gD w g bs.length i) (d:w.cell? ⟨a,0,none⟩=some (ptr g)) (x:Nat) (f:x<bs.length):
 Calls prog 325 [.int .i64 (x:Int),ptr a].toArray w (λe w'=>e= .returned (.int .i64 (iO bs x:Int))∧Ext [] w w'):=by
 refine aW func325 ntmps325 ?_;refine aD ?_;refine a7 zt rfl rfl (λw' b=>b.ct d av) ?_;refine ar ?_;refine ao rfl Oa rfl (λw' b=>Rb w' g bs i c (h.ext b.ext) x f) ?_;refine ax ?_;intro k j;exact⟨rfl,j.ext⟩
theorem GV {w:World} {b:World} {S:List Nat} {cs:List Chunk} {a t:Nat} {v:Value} (h:af b S cs w) (c:Has cs (aE a [v] t)):w.cell? ⟨a,0,none⟩=some v:=h.ep c rfl
theorem Rf (w:World) (j:mK w) (g:Nat) (bs:List Bool) (i:e5) (d:hT bs i) (h:gD w g bs.length i) (ai:0<bs.length) (x k:Int):
 Calls prog 226 [ptr g,.int .i64 x,.int .i64 k].toArray w (λe w'=>e= .returned (.int .i64 (nF (jk bs) bs.length x k:Int))∧Ext [] w w'):=by
 refine aW func226 ntmps226 ?_;refine ah ?_;intro b n o;refine aL ?_;refine wB (us:=[]) (vs:=[ptr b]) rfl rfl rfl ?_;refine ao rfl E0 rfl (λw' a=>GU w' g _ i (h.ext a.ext) ⟨ai,d.le⟩ _ N8 [ptr b] (jk bs) (λy f=>GF y ai) (λl c y f=>Rc l ((j.ext a.ext).ext c) b g bs i d ((h.ext a.ext).ext c) (GV (a.keep c) Has.head) y f) x k) ?_;refine ax ?_;intro p m;exact⟨rfl,m.ext⟩
theorem uT (w:World) (g:Nat) (bs:List Bool) (i:e5) (c:hT bs i) (h:gD w g bs.length i) (ai:0<bs.length) (x k:Int):
 Calls prog 227 [ptr g,.int .i64 x,.int .i64 k].toArray w (λe w'=>e= .returned (.int .i64 (nF (iO bs) bs.length x k:Int))∧Ext [] w w'):=by
 refine aW func227 ntmps227 ?_;refine ah ?_;intro a m n;refine aL ?_;refine wB (us:=[]) (vs:=[ptr a]) rfl rfl rfl ?_;refine ao rfl E0 rfl (λw' b=>GU w' g _ i (h.ext b.ext) ⟨ai,c.le⟩ _ N_ [ptr a] (iO bs) (λy d=>by have:=A4 bs y;omega) (λj f y d=>Re j a g bs i c ((h.ext b.ext).ext f) (GV (b.keep f) Has.head) y d) x k) ?_;refine ax ?_;intro o l;exact⟨rfl,l.ext⟩
def ll (bs:List Bool) (n x:Nat):List Bool:=(List.range bs.length).map (λy=>if n≤y∧y<x then false else ce bs y)
theorem oQ (bs:List Bool) (n x:Nat): (ll bs n x).length=bs.length:=by simp[ll]
theorem va (bs:List Bool) (n x y:Nat) (a:y<bs.length):ce (ll bs n x) y=if n≤y∧y<x then false else ce bs y:=by
 unfold ll;rw[ce,fB,eJ,rT a];rfl
theorem Rg (bs:List Bool) (n:Nat):ll bs n n=bs:=by
 refine sX (oQ _ _ _) λy a=>?_
 rw[oQ] at a
 rw[va _ _ _ _ a,ag aa]
theorem Rh {bs:List Bool} {n x:Nat} (c:n≤x) (d:x<bs.length):mI (ll bs n x) (x:Int) false=ll bs n (x+1):=by
 refine sX (by rw[mJ,oQ,oQ]) λy a=>?_
 rw[mJ,oQ] at a
 rw[xH _ _ _ _ (by rw[oQ];exact a),va _ _ _ _ a,va _ _ _ _ a];by_cases e:x=y
 subst e;rw[ay rfl,ay aa]
 rw[ag aa];by_cases b:n≤y∧y<x
 rw[ay b,ay aa];rw[ag b,ag aa]
def lm (bs:List Bool) (n x:Nat):List Bool:=(List.range n).map (λy=>if y<bs.length then ce bs y else decide (y<x) && decide (y%8=0))
theorem mL (bs:List Bool) (n x:Nat): (lm bs n x).length=n:=by simp[lm]
theorem sY (bs:List Bool) (n x y:Nat) (a:y<n):ce (lm bs n x) y=if y<bs.length then ce bs y else decide (y<x) && decide (y%8=0):=by
 unfold lm;rw[ce,fB,eJ,rT a];rfl
theorem Ri {bs:List Bool} {n x:Nat} (c:bs.length≤x) (d:x<n):lm bs n (x+1)=if x%8=0 then mI (lm bs n x) (x:Int) true else lm bs n x:=by
 split
 rename_i b;refine sX (by rw[mJ,mL,mL]) λy a=>?_
 rw[mL] at a
 rw[xH _ _ _ _ (by rw[mL];exact a),sY _ _ _ _ a,sY _ _ _ _ a];by_cases e:x=y
 subst e;rw[ay rfl,ag aa];simp[b]
 rw[ag (show ¬(x:Int)=(y:Int) by omega),show decide (y<x+1)=decide (y<x) from hf.2 aa];rename_i b;refine sX (by rw[mL,mL]) λy a=>?_
 rw[mL] at a
 rw[sY _ _ _ _ a,sY _ _ _ _ a];by_cases e:x=y
 subst e;rw[ag aa,ag aa];simp[b]
 rw[show decide (y<x+1)=decide (y<x) from hf.2 aa]
theorem Rj {bs:List Bool} {n x:Nat} (b:n≤x):lm bs n x=jj bs n:=by
 refine sX (by rw[mL,qa]) λy a=>?_
 rw[mL] at a
 rw[sY _ _ _ _ a,QU _ _ _ a,show decide (y<x)=true from b5 aa];simp
theorem Rk {ws:List Nat} {bs:List Bool} {n x:Nat} (h:cW ws (ll bs n x)) (g:bs.length≤x) (d:n≤64*ws.length):cW ws (lm bs n bs.length):=by
 have f:=h.cut n d (λy b=>by
  rcases e0 y bs.length with a | a
  rw[va _ _ _ _ a,ay aa];exact p_ (by rw[oQ];exact a))
 have e: (List.range n).map (ce (ll bs n x))=lm bs n bs.length:=by
  refine sX (by simp[lm]) λy b=>?_
  have c:y<n:=by simpa using b
  rw[sY _ _ _ _ c,ce,fB,eJ,rT c];show ce (ll bs n x) y=_
  rcases e0 y bs.length with a | a
  rw[va _ _ _ _ a,ag aa,ay a];rw[p_ (by rw[oQ];exact a),ag aa,bO aa];rfl
 exact e▸f
theorem p0 (w:World) (g:Nat) (bs:List Bool) (i:e5) (p:hT bs i) (h: (eC g bs.length i).pred w) (C: (eC g bs.length i).cm.Nodup) (n:Nat) (N:2≤n∧n≤1000):
 Calls prog 129 [ptr g,.int .i64 (n:Int)].toArray w (la (λ_=>Value.int .i64 0) (eC g bs.length i) (λj=>eC g n j) (λj=>hT (jj bs n) j) w):=by
 have O:=p.le
 have P:=gD.of h p.len
 refine calls (n:=61) func129 rfl ntmps129 rfl ?_;refine cL (H':=af w (eC g bs.length i).cm [eC g bs.length i]) ?_ (Sub.refl _) (λx D=>af.qP D h C);refine b_ ?_;refine ao rfl Ev rfl (λw' d=>uP w' n) ?_;refine ax ?_;refine fD rfl ((by rw[b5 (show 2≤(n:Int)∧(n:Int)≤1000 by omega)];rfl)) ?_;refine aD ?_;refine a7 bM rfl rfl (λw' d=>(gD.of (d.has Has.head) p.len).c1) ?_;refine bp ?_;refine b1 (ι:=Nat × e5) (λs=>[(0,ptr g),(1,.int .i64 (n:Int)),(5,.int .i64 (bs.length:Int)),(6,.int .i64 (s.1 :Int))]) (λs=>af w (eC g bs.length i).cm [eC g bs.length s.2]) (λs=>n≤s.1∧s.1≤1000+n∧hT (ll bs n s.1) s.2) (λs=>1000+n - s.1) ?_ ?_;exact λw f=>⟨(n,i),⟨ch _,by dsimp only;omega,by rw[Rg];exact p⟩,(cw rfl rfl rfl rfl),f⟩
 rintro⟨x,j⟩ ⟨k,r,e⟩;dsimp only at k r e ⊢
 refine aL ?_;refine aj (λE=>?_) (λE=>?_);have l:=λw' a b=>GS w' g (ll bs n x) j e a b (x:Int) aa
 rw[oQ,Rh k aa] at l
 refine aD ?_;refine Al (λj=>[eC g bs.length j]) rfl EG rfl (λ_=>bn.head) (λw' d=>l w' (d.has Has.head) (by simpa [aA] using d.nodup)) (λt u=>?_);refine aL ?_;exact bg (x+1,t) ⟨by dsimp only;omega,by dsimp only;omega,u⟩ bm bR (λw' d=>d);refine aD ?_;obtain⟨A,m,c,ws⟩:=j;have B:=e.len
 have o:=e.m16
 dsimp only at B o
 refine w8 bv.head ?_;refine b1 (ι:=Value × Nat × List Nat) (λs=>[(0,ptr g),(1,.int .i64 (n:Int)),(5,.int .i64 (bs.length:Int))]) (λs=>af w (eC g bs.length i).cm [aE g [s.1,.int .i64 (bs.length:Int)] 255,own 32 1 s.1 s.2.1 (iP.all s.2.2)]) (λs=>s.2.2.length=s.2.1∧s.2.1≤16∧cW s.2.2 (ll bs n x)) (λs=>17 - s.2.1) ?_ ?_;exact λw f=>⟨(.slice A m c,m,ws),⟨B,o,e.nG⟩,(ef rfl rfl rfl),f⟩
 rintro⟨v,m,ws⟩ ⟨y,o,z⟩;dsimp only at y o z ⊢
 refine hE (Has.tail Has.head) (λA c F Q R _ S=>?_);subst F;refine aL ?_;refine k1 rfl rfl rfl (wrap64 aa aa) ?_;refine aS ?_;refine aj (λG=>?_) (λG=>?_);refine aR ?_;intro T U V;refine gv qV rfl rfl rfl bi (λ_=>by exact er) rfl (im rfl) (by simp only[maxLen];omega) aa (λW X=>?_);refine aq ?_;refine iI (Has.tail Has.head) (λH I J _ _ _ _=>?_);subst J;refine ah ?_;refine bg (.slice H (m+1) I,m+1,ws++[0]) ⟨by simp[y],by dsimp only;omega,z.oB⟩ bm (ef rfl rfl rfl) (λw' d=>?_);dsimp only;rw[bx.hk];exact d;have K:=Rk z aa aa
 refine kw ?_;refine cL (H':=af w (eC g bs.length i).cm [eC g n ⟨A,m,c,ws⟩]) ?_ (Sub.refl _) (λw' d=>d.both bv.head bv.head);refine b1 (ι:=Nat × e5) (λs=>[(0,ptr g),(1,.int .i64 (n:Int)),(7,.int .i64 (s.1 :Int))]) (λs=>af w (eC g bs.length i).cm [eC g n s.2]) (λs=>bs.length≤s.1∧s.1≤1000+bs.length∧hT (lm bs n s.1) s.2) (λs=>1000+bs.length - s.1) ?_ ?_;exact λw f=>⟨(bs.length,⟨A,m,c,ws⟩),⟨ch _,by dsimp only;omega,⟨K,by rw[mL];omega,y,o⟩⟩,(ef rfl rfl rfl),f⟩
 rintro⟨x,j⟩ ⟨k,r,e⟩;dsimp only at k r e ⊢
 refine aL ?_;refine aj (λL=>?_) (λL=>?_);have q:=Ri (bs:=bs) k (show x<n by omega)
 refine aD ?_;refine nb rfl rfl rfl aa aa ?_;refine ah ?_;refine aj (λM=>?_) (λM=>?_);rw[ay aa] at q
 have l:=λw' a b=>GR w' g (lm bs n x) j e a b (x:Int) aa
 rw[mL] at l
 refine ah ?_;refine Al (λj=>[eC g n j]) rfl zR rfl (λ_=>bn.head) (λw' d=>l w' (d.has Has.head) (by simpa [aA] using d.nodup)) (λt u=>?_);refine aL ?_;exact bg (x+1,t) ⟨by dsimp only;omega,by dsimp only;omega,by dsimp only;rw[q];exact u⟩ bm bR (λw' d=>d);rw[ag aa] at q
 refine aL ?_;exact bg (x+1,j) ⟨by dsimp only;omega,by dsimp only;omega,by dsimp only;rw[q];exact e⟩ bm bR (λw' d=>d);refine bB ?_;intro Y f;rw[Rj aa] at e
 exact la.of j e f
theorem Rl:hT [] ⟨none,0,0,[]⟩:=⟨⟨by simp,by simp,λx=>by simp[lX,ce]⟩,by simp,rfl,by simp⟩
theorem vb (w:World) (n:Nat) (c:2≤n∧n≤1000):
 Calls prog 99 [.int .i64 (n:Int)].toArray w (fd (λs:Nat × e5=>Value.tuple #[ptr s.1,.int .i64 0]) (λs=>eC s.1 n s.2) (λs=>hT (jj [] n) s.2) w):=by
 refine aW func99 ntmps99 ?_;refine aR ?_;refine ao rfl Ev rfl (λw' a=>uP w' n) ?_;refine ah ?_;refine fD rfl ((by rw[b5 (show 2≤(n:Int)∧(n:Int)≤1000 by omega)];rfl)) ?_;refine al ?_;intro b f g;refine aD ?_;refine hg (H':=af w [] [eC b 0 ⟨none,0,0,[]⟩]) ?_ (Sub.refl _) (λw' a=>(a.ze 32 1).both (bv.tail bv.head) bv.head);refine Al (λj=>[eC b n j]) rfl wQ rfl (λ_=>bn.head) (λw' a=>p0 w' b [] _ Rl (a.has Has.head) (by simpa [aA] using a.nodup) n c) (λj d=>?_);refine bp ?_;intro h e;exact fd.of (b,j) d e
end Go.Proofs.YtoghoobfpcadbaaGreatDoor.Mq.cO
namespace Go.Proofs.YtoghoobfpcadbaaGreatDoor.Mq
open Go Go.RowKit Go.Proofs Tryz
structure fV where
 fv:Int
 s1:Int
 s2:Int
 ln:Int
 use:Int
 j1:Int
abbrev fV.enc (c:fV):List Value:=[.int .i64 c.fv,.int .i64 c.s1,.int .i64 c.s2,.int .i64 c.ln,.int .i64 c.use,.int .i64 c.j1]
structure gE where
 at_:hM
 aG:fV
 put:Bool
 wrap:Bool
 home:Bool
abbrev gE.enc (p:gE):List Value:=[.int .i64 p.at_.di,.int .i64 p.at_.fn,.int .i64 p.at_.an,.int .i64 p.at_.aM,.int .i64 p.at_.fl,.int .i64 p.aG.fv,.int .i64 p.aG.s1,.int .i64 p.aG.s2,.int .i64 p.aG.ln,.int .i64 p.aG.use,.int .i64 p.aG.j1,.bool p.put,.bool p.wrap,.bool p.home]
structure sZ where
 g:Nat
 bs:List Bool
 i:cO.e5
abbrev sZ.aG (s:sZ):Chunk:=cO.eC s.g s.bs.length s.i
structure bl where
 g:Nat
 bf:gE
 ap:bq
 st:sZ
 y:Int
 x:Int
 top:Int
 cQ:Int
 fW:gE
 kC:Int
 kD:Int
 has:Bool
 last:Int
abbrev eT (s:bl):List Value:=[.int .i64 s.bf.at_.di,.int .i64 s.bf.at_.fn,.int .i64 s.bf.at_.an,.int .i64 s.bf.at_.aM,.int .i64 s.bf.at_.fl,.int .i64 s.bf.aG.fv,.int .i64 s.bf.aG.s1,.int .i64 s.bf.aG.s2,.int .i64 s.bf.aG.ln,.int .i64 s.bf.aG.use,.int .i64 s.bf.aG.j1,.bool s.bf.put,.bool s.bf.wrap,.bool s.bf.home,
 ptr s.ap.g,ptr s.st.g,.int .i64 s.y,.int .i64 s.x,.int .i64 s.top,.int .i64 s.cQ,
 .int .i64 s.fW.at_.di,.int .i64 s.fW.at_.fn,.int .i64 s.fW.at_.an,.int .i64 s.fW.at_.aM,.int .i64 s.fW.at_.fl,.int .i64 s.fW.aG.fv,.int .i64 s.fW.aG.s1,.int .i64 s.fW.aG.s2,.int .i64 s.fW.aG.ln,.int .i64 s.fW.aG.use,.int .i64 s.fW.aG.j1,.bool s.fW.put,.bool s.fW.wrap,.bool s.fW.home,.int .i64 s.kC,.int .i64 s.kD,
 .bool s.has,.int .i32 s.last]
abbrev bl.an (s:bl):Chunk:=aE s.g (eT s) 100
abbrev aP (s:bl):List Chunk:=[s.an,s.ap.an,aU (cd s.ap.r),s.ap.s.au,s.ap.s.cj,s.ap.be.au,s.st.aG]
structure bd where
 bf:gE
 bE:b4
 y:Int
 x:Int
 top:Int
 cQ:Int
 fW:gE
 kC:Int
 kD:Int
 has:Bool
 last:Int
 xL:List Bool
def bl.abs (s:bl):bd:=⟨s.bf,s.ap.abs,s.y,s.x,s.top,s.cQ,s.fW,s.kC,s.kD,s.has,s.last,s.st.bs⟩
abbrev bd.rows (s:bd):Int:=s.bE.cJ.length
abbrev bd.cols (s:bd):Int:=s.bE.cols
structure d4 (s:bd):Prop where
 bE:c7 s.bE
 y:0≤s.y∧s.y<s.rows
 x:0≤s.x∧s.x≤s.cols
 top:0≤s.top∧s.top≤s.cQ∧s.cQ<s.rows
structure dT (s:bl):Prop where
 r:cU s.ap.r
 st:cO.hT s.st.bs s.st.i
 n: (s.st.bs.length:Int)=s.ap.cols
structure hU (s:bl) (q:bd) (z:bl):Prop where
 g:z.g=s.g
 ap:z.ap.g=s.ap.g
 st:z.st.g=s.st.g
 wf:dT z
 abs:z.abs=q
def fw (n lo hi:Int):Int:=max lo (min n hi)
def fx (s:bd):Int:=min s.x (s.cols - 1)
def gn (s:bd) (f:b4→b4):bd:={ s with bE:=f s.bE }
def an (s:bd):Int:=s.bf.at_.an
def aM (s:bd):Int:=s.bf.at_.aM
def iQ (s:bd):bd × Bool:=
 let s:={ s with x:=fx s }
 if s.y=s.cQ then (gn s (λp=>hS p s.top s.cQ 1 (λp a b=>mH p a b (an s) (aM s))),true)
 else if s.y<s.rows - 1 then ({ s with y:=s.y+1 },true) else (s,false)
def j2 (s:bd) (w:Int):bd:=
 if s.x+w≤s.cols then s else
 if s.bf.wrap=false then { s with x:=s.cols - w } else
 let s:=if s.x<s.cols then gn s (λp=>xy p s.y) else s
 let t:=iQ s
 let s:={ t.1 with x:=0 }
 if t.2=true then gn s (λp=>iL p s.y true) else s
def rg (s:bd) (r:Int):bd:=
 let w:=dC r
 let s:=if w=0 then gn s (λp=>xx p s.y (s.x - 1) r) else s
 if w<1 then s else
 let s:=j2 s w
 let s:=if s.bf.put=true then gn s (λp=>u1 p s.y s.x w (an s) (aM s)) else s
 let s:=gn s (λp=>u0 p s.y s.x r s.bf.at_)
 { s with x:=s.x+w,last:=r }
theorem j3 (w:World) (s:bl) (a:s.an.pred w):Calls prog 11 [ptr s.g].toArray w (Pure (ptr s.ap.g) w):=by
 refine aW func11 ntmps11 ?_;refine hr ?_;refine a7 LO rfl rfl (λd b=>b.bZ a (by (simp;done)) rfl) ?_;refine ax ?_;intro e c;exact⟨rfl,c.ext⟩
theorem Rm (w:World) (s:bl) (c:s.an.pred w) (ai:s.ap.an.pred w):Calls prog 199 [ptr s.g].toArray w (Pure (.int .i64 (s.ap.s.l.length:Int)) w):=by
 refine aW func199 ntmps199 ?_;refine aL ?_;refine ao rfl jV rfl (λa b=>j3 a s (b.dK c av)) ?_;refine ao rfl pH rfl (λa b=>p1 a s.ap (b.dK ai av)) ?_;refine ax ?_;intro e d;exact⟨rfl,d.ext⟩
theorem GW (w:World) (s:bl) (c:s.an.pred w) (ai:s.ap.an.pred w):Calls prog 240 [ptr s.g].toArray w (Pure (.int .i64 s.ap.cols) w):=by
 refine aW func240 ntmps240 ?_;refine aL ?_;refine ao rfl jV rfl (λa b=>j3 a s (b.dK c av)) ?_;refine ao rfl zX rfl (λa b=>AG a s.ap (b.dK ai av)) ?_;refine ax ?_;intro e d;exact⟨rfl,d.ext⟩
theorem lp (w:World) (s:bl) (a:s.an.pred w):Calls prog 321 [ptr s.g].toArray w (Pure (.agg [.int .i64 s.bf.at_.an,.int .i64 s.bf.at_.aM].toArray) w):=by
 refine aW func321 ntmps321 ?_;refine ah ?_;intro e f h;refine aJ ?_;refine cy gz rfl rfl rfl (λi b j u c=>b.jF (sz:=2) a (by (simp;done)) rfl j u c) ?_;refine ax ?_;intro k d;exact⟨rfl,d.ext⟩
theorem jl (w:World) (s:bl) (a:s.an.pred w) (ai:s.ap.an.pred w) (h:2≤s.ap.cols∧s.ap.cols≤1000):Calls prog 225 [ptr s.g].toArray w (Pure (.int .i64 (min s.x (s.ap.cols - 1))) w):=by
 refine aW func225 ntmps225 ?_;refine al ?_;refine bF [0,1,2,3,4] 1 [[(5,false,[6,7,8])]] ?_;refine ah ?_;refine aI rfl (λi c=>(a7 bM rfl rfl (λj d=>by subst d;exact c.bZ a (by (simp;done)) rfl) aC)) ?_;refine ah ?_;refine ao rfl jB rfl (λe b=>GW e s (b.dK a av) (b.dK ai av)) ?_;refine aJ ?_;intro k f;exact⟨rfl,f.ext⟩
theorem nH (w:World) (n lo hi:Int):Calls prog 338 [.int .i64 n,.int .i64 lo,.int .i64 hi].toArray w (Pure (.int .i64 (fw n lo hi)) w):=by
 refine aW func338 ntmps338 ?_;refine et ?_;intro b a;exact⟨rfl,a.ext⟩
def ej (s:bl) (v:Value) (q:bd) (w:World):Ending→World→Prop:=aO (λ_:bl=>v) (aP s) aP (hU s q) w
structure cR (k:Nat) (s q:bd):Prop where
 wf:d4 s→d4 q
 rows:q.bE.cJ.length=s.bE.cJ.length
 cols:q.bE.cols=s.bE.cols
 room:q.bE.room=s.bE.room
 be:q.bE.gd.length≤s.bE.gd.length+k
theorem cR.refl (s:bd):cR 0 s s:=⟨id,rfl,rfl,rfl,aa⟩
theorem cR.trans {a b:Nat} {p q r:bd} (h:cR a p q) (k:cR b q r):cR (a+b) p r:=⟨λx=>k.wf (h.wf x),k.rows.trans h.rows,k.cols.trans h.cols,k.room.trans h.room,by have:=h.be;have:=k.be;omega⟩
theorem cR.mono {a b:Nat} {p q:bd} (h:cR a p q) (c:a≤b):cR b p q:=⟨h.wf,h.rows,h.cols,h.room,by have:=h.be;omega⟩
theorem hV (s:bd) {f:b4→b4} {k:Nat} (h:Kept k s.bE (f s.bE)):cR k s (gn s f):=
 ⟨λw=>⟨h.wf w.bE,by show 0≤s.y∧s.y<((f s.bE).cJ.length:Int);rw[h.rows];exact w.y,by show 0≤s.x∧s.x≤(f s.bE).cols;rw[h.cols];exact w.x,by show 0≤s.top∧s.top≤s.cQ∧s.cQ<((f s.bE).cJ.length:Int);rw[h.rows];exact w.top⟩,h.rows,h.cols,h.room,h.be⟩
theorem oR (s:bd) {x:Int} (h:d4 s→0≤x∧x≤s.cols):cR 0 s { s with x:=x }:=⟨λw=>⟨w.bE,w.y,h w,w.top⟩,rfl,rfl,rfl,by show s.bE.gd.length≤_;omega⟩
theorem GX (s:bd) {y:Int} (h:d4 s→0≤y∧y<s.rows):cR 0 s { s with y:=y }:=⟨λw=>⟨w.bE,h w,w.x,w.top⟩,rfl,rfl,rfl,by show s.bE.gd.length≤_;omega⟩
theorem xM {s:bd} (w:d4 s):0≤fx s∧fx s≤s.cols:=by
 have a:=w.bE.cols
 have b:=w.x
 simp only[fx,bd.cols] at *
 omega
theorem xN (p:b4) (x y:Int) {f:b4→Nat→Nat→b4} (c: ∀q a b,a<q.cJ.length→b<q.cJ.length→Kept 2 q (f q a b)):Kept 2 p (hS p x y 1 f):=by
 unfold hS;split
 rename_i h;obtain⟨⟨d,e⟩,⟨g,i⟩,j⟩:=h;exact (u3 (λq k=>c q x.toNat y.toNat aa aa) _).mono aa;exact (Kept.refl p).mono aa
theorem s0 (s:bd):cR 2 s (iQ s).1:=by
 have c:cR 0 s { s with x:=fx s }:=oR s (λw=>xM w)
 unfold iQ;dsimp only;split
 exact (c.trans (hV { s with x:=fx s } (f:=λp=>hS p s.top s.cQ 1 (λp a b=>mH p a b (an s) (aM s))) (xN s.bE _ _ (λq a b d e=>u2 q d e _ _)))).mono aa;split
 exact (c.trans (GX _ (λw=>by have:=w.y;simp only[bd.rows] at *;omega))).mono aa;exact c.mono aa
theorem d4.nums {s:bl} (h:d4 s.abs): (1≤(s.ap.s.l.length:Int)∧(s.ap.s.l.length:Int)≤1000)∧(2≤s.ap.cols∧s.ap.cols≤1000)∧(0≤s.y∧s.y<s.ap.s.l.length)∧(0≤s.x∧s.x≤s.ap.cols)∧(0≤s.top∧s.top≤s.cQ∧s.cQ<s.ap.s.l.length):=by
 have f: (b0 s.ap.s.l).length=s.ap.s.l.length:=by simp[b0]
 obtain⟨⟨c,d,-,-,-⟩,a,e,b⟩:=h;simp only[bl.abs,bq.abs,bd.rows,bd.cols] at c d a e b
 rw[f] at d a b
 exact⟨aa,c,a,e,b⟩
theorem kE {s:bl} {w b:World} {X cs':List Chunk} {v v2:Value} {q:b4} {Q:bd} (t:bl) (i:bq) (a:t.g=s.g∧t.ap.g=s.ap.g∧t.st.g=s.st.g) (c:dT t) (hi:i.g=t.ap.g∧cU i.r∧i.abs=q) (f:q.cols=t.ap.cols) (h: { t.abs with bE:=q } = Q) (j:v2=v)
 (k:af w (aA (aP s)) X b) (l:aB X [t.an,i.an,aU (cd i.r),i.s.au,i.s.cj,i.be.au,t.st.aG] cs'):ej s v Q w (.returned v2) b:=by
 obtain⟨d,m,e⟩:=hi;refine aO.bQ { t with ap:=i } ⟨a.1,d.trans a.2.1,a.2.2,⟨m,c.st,?_⟩,?_⟩ j ?_;have:i.cols=q.cols:=by rw[←e];rfl
 rw[c.n,←f,←this];rw[←h];simp only[bl.abs,e]
 have o:=k.aw l
 simpa only[aP,bl.an,eT,d] using o
theorem e6 {s:bl} {w b:World} {X cs':List Chunk} {v v2:Value} {q:bd} (t:bl) (a:t.g=s.g∧t.ap.g=s.ap.g∧t.st.g=s.st.g) (c:dT t) (d:t.abs=q) (e:v2=v)
 (f:af w (aA (aP s)) X b) (h:aB X (aP t) cs'):ej s v q w (.returned v2) b:=aO.bQ t ⟨a.1,a.2.1,a.2.2,c,d⟩ e (f.aw h)
abbrev hv (s:bl):bl:={ s with x:=min s.x (s.ap.cols - 1) }
theorem nI (w:World) (s:bl) (p:bq) (e:s.ap=p) (a:s.an.pred w) (ai:s.ap.an.pred w):Calls prog 199 [ptr s.g].toArray w (Pure (.int .i64 (p.s.l.length:Int)) w):=by subst e;exact Rm w s a ai
theorem j4 (w:World) (s:bl) (p:bq) (e:s.ap=p) (a:s.an.pred w) (ai:s.ap.an.pred w):Calls prog 240 [ptr s.g].toArray w (Pure (.int .i64 p.cols) w):=by subst e;exact GW w s a ai
theorem GY {s:bl} (h:s.y=s.cQ):iQ s.abs=({ (hv s).abs with bE:=hS s.ap.abs s.top s.cQ 1 (λq a b=>mH q a b s.bf.at_.an s.bf.at_.aM) },true):=by
 unfold iQ;exact ay h
theorem lY (s:bl):s.abs.bE.cJ.length=s.ap.s.l.length:=by simp[bl.abs,bq.abs,b0]
theorem GZ {s:bl} (h: ¬s.y=s.cQ) (a:s.y<(s.ap.s.l.length:Int) - 1):iQ s.abs=({ hv s with y:=s.y+1 }.abs,true):=by
 unfold iQ;exact (ag h).trans (ay (by show s.y<(s.abs.bE.cJ.length:Int) - 1;rw[lY];exact a))
theorem G0 {s:bl} (h: ¬s.y=s.cQ) (a: ¬s.y<(s.ap.s.l.length:Int) - 1):iQ s.abs=((hv s).abs,false):=by
 unfold iQ;exact (ag h).trans (ag (by show ¬s.y<(s.abs.bE.cJ.length:Int) - 1;rw[lY];exact a))
theorem G1 (w:World) (s:bl) (m:a8 w (aP s)) (c:dT s) (i:d4 s.abs) (o:s.ap.be.l.length≤1152921500000):
 Calls prog 228 [ptr s.g].toArray w (ej s (.bool (iQ s.abs).2) (iQ s.abs).1 w):=by
 obtain⟨v,p,x,z,j⟩:=i.nums;refine bC func228 ntmps228 m ?_;refine aJ ?_;refine ao rfl jb rfl (λe d=>jl e s (d.has aQ) (d.has bH) p) ?_;refine aL ?_;refine bF [0,1,2,3,4,5,6,7,8,9] 0 [[]] ?_;refine bI ?_;refine aj (λf=>?_) (λf=>?_);refine bF [0,1,2,3,4,5,6,7,8,9,10,11,12] 2 [[(13,false,[]),(14,true,[])]] ?_;refine cI ?_;refine ao rfl k8 rfl (λe d=>lp e (hv s) (d.has aQ)) ?_;refine ah ?_;refine cE (λe d=>Gu e s.ap d c.r i.bE o s.top s.cQ 1 s.bf.at_.an s.bf.at_.aM) (λi32 t=>?_);refine bB ?_;intro k h;exact kE (hv s) i32 ⟨rfl,rfl,rfl⟩ ⟨c.r,c.st,c.n⟩ t (xN s.ap.abs s.top s.cQ (λq a b u j=>u2 q u j s.bf.at_.an s.bf.at_.aM)).cols (by rw[GY f]) (by rw[GY f]) h ae;refine ar ?_;refine bF [0,1,2,3,4] 1 [[(5,false,[6,7,8])]] ?_;refine aD ?_;refine ao rfl nj rfl (λe d=>nI e (hv s) s.ap rfl (d.has aQ) (d.has bH)) ?_;refine aD ?_;refine aj (λaK=>?_) (λaK=>?_);refine eM ?_;intro k h;exact e6 { hv s with y:=s.y+1 } ⟨rfl,rfl,rfl⟩ ⟨c.r,c.st,c.n⟩ (by rw[GZ f aa]) (by rw[GZ f aa]) h ae;refine aJ ?_;intro k h;exact e6 (hv s) ⟨rfl,rfl,rfl⟩ ⟨c.r,c.st,c.n⟩ (by rw[G0 f aa]) (by rw[G0 f aa]) h ae
end Go.Proofs.YtoghoobfpcadbaaGreatDoor.Mq
