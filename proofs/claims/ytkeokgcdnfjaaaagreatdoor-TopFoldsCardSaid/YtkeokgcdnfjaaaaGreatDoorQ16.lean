/- part 16 of the proof -/
import Derived.Test.YtkeokgcdnfjaaaaGreatDoorQ15
import Derived.Shelf.Small.Bits
import Derived.Shelf.Spec.TrailingZeros
namespace Go.Proofs.YtkeokgcdnfjaaaaGreatDoor.Mq.cK
open Go Go.RowKit Go.Proofs Tryz
def GC:Shelf.Ren:=⟨λ| 29=>377 | n=>n,λ| 0=>0 | 3=>3 | 4=>4 | 5=>5 | 22=>34 | 25=>258 | 54=>428 | n=>n,λ| 1=>0 | n=>n⟩
theorem QN:Lays7.n29 prog GC where
 mixed:=by kernel_rfl
 f29:=func377.trans (aX some ab)
 t0:=underlying0
 a0:=isAgg0
 z0:=sizeOf0
 v0:=zeroValue0
 i0:=by kernel_rfl
 t3:=underlying3
 a3:=isAgg3
 z3:=sizeOf3
 v3:=zeroValue3
 i3:=by kernel_rfl
 t4:=underlying4
 a4:=isAgg4
 z4:=sizeOf4
 v4:=zeroValue4
 i4:=by kernel_rfl
 t5:=underlying5
 a5:=isAgg5
 z5:=sizeOf5
 v5:=zeroValue5
 i5:=by kernel_rfl
 t22:=underlying34
 a22:=isAgg34
 z22:=sizeOf34
 v22:=zeroValue34
 i22:=by kernel_rfl
 t25:=underlying258
 a25:=isAgg258
 z25:=sizeOf258
 v25:=zeroValue258
 i25:=by kernel_rfl
 t54:=underlying428
 a54:=isAgg428
 z54:=sizeOf428
 g1:=by kernel_rfl
def QO:Shelf.Ren:=⟨λ| 129=>290 | 134=>378 | n=>n,λ| 3=>3 | 4=>4 | 5=>5 | 9=>9 | 46=>258 | 53=>34 | n=>n,λn=>n⟩
theorem QP:Lays.n134 prog QO where
 mixed:=by kernel_rfl
 f129:=func290.trans (aX some ab)
 f134:=func378.trans (aX some ab)
 t3:=underlying3
 a3:=isAgg3
 z3:=sizeOf3
 v3:=zeroValue3
 t4:=underlying4
 a4:=isAgg4
 z4:=sizeOf4
 v4:=zeroValue4
 t5:=underlying5
 a5:=isAgg5
 z5:=sizeOf5
 v5:=zeroValue5
 t9:=underlying9
 a9:=isAgg9
 z9:=sizeOf9
 v9:=zeroValue9
 t46:=underlying258
 a46:=isAgg258
 z46:=sizeOf258
 v46:=zeroValue258
 t53:=underlying34
 a53:=isAgg34
 z53:=sizeOf34
 v53:=zeroValue34
def iG:bA Nat:=⟨λw=>[.int .u64 (w:Int)],1,λ_=>rfl,λ_=>by repeat (first | exact aI.nil | refine aI.cons rfl ?_)⟩
structure e5 where
 A:Option Addr
 m:Nat
 c:Nat
 ws:List Nat
abbrev xy (n:Nat) (i:e5):List Value:=[.slice i.A i.m i.c,.int .i64 (n:Int)]
def eA (g n:Nat) (i:e5):Chunk:=both (aD g (xy n i) 253) (own 34 1 (.slice i.A i.m i.c) i.m (iG.all i.ws))
structure hL (bs:List Bool) (i:e5):Prop where
 nz:cS i.ws bs
 le:bs.length≤1000
 len:i.ws.length=i.m
 m16:i.m≤16
structure gu (w:World) (g n:Nat) (i:e5):Prop where
 c0:w.cell? ⟨g,0,none⟩=some (.slice i.A i.m i.c)
 c1:w.cell? ⟨g,1,none⟩=some (.int .i64 (n:Int))
 rd:Rd iG w (λ_=>True) i.A i.m i.c i.ws
theorem gu.of {w:World} {g n:Nat} {i:e5} (h: (eA g n i).pred w) (b:i.ws.length=i.m):gu w g n i:=by
 have a:w.heap[g]? = some (.cells (xy n i).toArray 253 (0,0)):=h.1
 obtain⟨A,c,d,e⟩:=Rd.fX (E:=iG) (l:=i.ws) h.2 b;injection d with f k j
 subst f j;exact⟨by rw[cell_of_row w g 0 _ _ _ a];rfl,by rw[cell_of_row w g 1 _ _ _ a];rfl,e.dC (λ_ _=>aU)⟩
theorem gu.ext {w w':World} {g n:Nat} {i:e5} (h:gu w g n i) (a:Ext [] w w'):gu w' g n i:=
 ⟨by rw[a.cell (World.block_lt_of_cell? _ _ h.c0) av];exact h.c0,by rw[a.cell (World.block_lt_of_cell? _ _ h.c1) av];exact h.c1,h.rd.ext a av⟩
abbrev ptr (g:Nat):Value:= .pointer (some ⟨g,0,none⟩)
theorem uC (w:World) (n:Int):Calls prog 145 [.int .i64 n].toArray w (λe w'=>e= .returned (.bool (decide (2≤n∧n≤1000)))∧Ext [] w w'):=by
 refine aW func145 ntmps145 ?_;refine aR ?_;refine aV 5 rfl (λh=>?_) (λh=>?_);have ai:=aY h
 refine aR ?_;intro b a;exact⟨by simp[ai],a.ext⟩;have ai:=a8 h
 refine aK ?_;intro b a;exact⟨by simp[ai],a.ext⟩
theorem GD (w:World) (g n:Nat) (i:e5) (h:gu w g n i):Calls prog 355 [ptr g].toArray w (λe w'=>e= .returned (.int .i64 (n:Int))∧Ext [] w w'):=by
 refine aW func355 ntmps355 ?_;refine hh ?_;refine ba bM rfl rfl (λw' a=>a.ct h.c1 av) ?_;refine ay ?_;intro c b;exact⟨rfl,b.ext⟩
theorem GE (w:World) (g n:Nat) (i:e5) (h:gu w g n i) (x:Int):Calls prog 274 [ptr g,.int .i64 x].toArray w (λe w'=>e= .returned (.bool (decide (0≤x∧x<(n:Int))))∧Ext [] w w'):=by
 refine aW func274 ntmps274 ?_;refine aR ?_;refine aV 7 rfl (λa=>?_) (λa=>?_);have b:=aY a
 refine ay ?_;refine ao rfl EY rfl (λw' d=>GD w' g n i (h.ext d.ext)) ?_;refine aK ?_;intro f c;exact⟨by simp[b],c.ext⟩;have b:=a8 a
 refine aR ?_;intro f c;exact⟨by simp[b],c.ext⟩
theorem QQ (v y:Nat): (v:Int)/2 ^ min ((y:Int)%64).toNat IntKind.u64.bits=((v/2 ^ (y%64):Nat):Int):=by
 have e:min ((y:Int)%64).toNat IntKind.u64.bits=y%64:=by simp only[IntKind.bits];omega
 rw[e];simp
theorem xz {bs:List Bool} {i:e5} (h:hL bs i) {x:Nat} (b:x<bs.length): ∃v,i.ws[x/64]? = some v∧v<2 ^ 64∧x/64<i.m:=by
 have c:=h.nz.ee
 have a:x/64<i.ws.length:=by omega
 exact⟨i.ws[x/64],bE a,h.nz.lt _ (rO a),by have:=h.len;omega⟩
theorem GF (y:Nat):IntKind.u64.wrap (1*2 ^ min ((y:Int)%64).toNat IntKind.u64.bits)=((2 ^ (y%64):Nat):Int):=by
 have e:min ((y:Int)%64).toNat IntKind.u64.bits=y%64:=by simp only[IntKind.bits];omega
 have h:2 ^ (y%64)<2 ^ 64:=qE a1 (iw _ a1)
 rw[e,Int.one_mul];have: ((2 :Int) ^ (y%64))=((2 ^ (y%64):Nat):Int):=by simp
 rw[this];generalize 2 ^ (y%64)=u at *
 simp[IntKind.wrap,IntKind.bits,IntKind.signed]
 omega
theorem GG {v:Nat} (h:v<2 ^ 64):IntKind.u64.wrap (v:Int)=(v:Int):=by
 simp[IntKind.wrap,IntKind.bits,IntKind.signed];omega
theorem GH (y:Nat):2 ^ (y%64)<2 ^ 64:=qE a1 (iw _ a1)
theorem GI {bs:List Bool} {x:Int} {a:Bool} (h: ¬(0≤x∧x<(bs.length:Int))):mE bs x a=bs:=ag h
theorem GJ {b w:World} {S:List Nat} {cs:List Chunk} {e a m c q v:Nat} {ws:List Nat} (h:af b S cs w) (d:Has cs (own e 1 (.slice (some ⟨a,0,none⟩) m c) m (iG.all ws))) (f:ws[q]? = some v):
 w.cell? ((⟨a,0,none⟩ :Addr).add (q*1))=some (.int .u64 (v:Int)):=by
 rw[Addr.add_lit,dG,Nat.mul_one];refine h.Du d ?_;have:=iG.lE (j:=0) (u:= .int .u64 (v:Int)) f rfl
 simpa [iG] using this
abbrev eg (g n:Nat) (i:e5) (a:List Bool) (w:World):=k3 (λ_=>Value.tuple #[]) (eA g n i) (λj=>eA g n j) (λj=>hL a j) w
theorem GK (w:World) (g:Nat) (bs:List Bool) (i:e5) (d:hL bs i) (h: (eA g bs.length i).pred w) (C: (eA g bs.length i).ce.Nodup) (x:Int) (J: -9223372036854775808≤x∧x≤9223372036854775807):
 Calls prog 193 [ptr g,.int .i64 x].toArray w (eg g bs.length i (mE bs x true) w):=by
 have K:=gu.of h d.len
 refine calls (n:=20) func193 rfl ntmps193 rfl ?_;refine cG (H':=af w (eA g bs.length i).ce [eA g bs.length i]) ?_ (Sub.refl _) (λx D=>af.qJ D h C);refine aS ?_;refine ao rfl EO rfl (λw' E=>GE w' g _ i (gu.of (E.has Has.head) d.len) x) ?_;refine ar ?_;refine aj (λp=>?_) (λp=>?_);obtain⟨y,rfl⟩ : ∃y:Nat,x=(y:Int):=⟨x.toNat,aa⟩;have s:y<bs.length:=by omega
 obtain⟨v,k,t,b⟩:=xz d s;have u:=d.len
 obtain⟨A,m,c,ws⟩:=i;dsimp only at k b u
 refine wY bv.head ?_;refine hv (Has.tail Has.head) (λL c' F _ _ _ G=>?_);injection F with l M H
 subst l H;obtain⟨a,z⟩:=G (by show 0<m;omega);dsimp only at z
 subst z;have B:=iG.pr (j:=0) (a':=v ||| 2 ^ (y%64)) (v:= .int .u64 ((v ||| 2 ^ (y%64):Nat):Int)) k a1 rfl
 refine ew [0,1,2,3,4,5,6,7,8,9,10,11,12] 1 [[(13,true,[])]] (af w (eA g bs.length ⟨some ⟨a,0,none⟩,m,c,ws⟩).ce [aD g (xy bs.length ⟨some ⟨a,0,none⟩,m,c,ws⟩) 253,own 34 1 (.slice (some ⟨a,0,none⟩) m c) m (iG.all ws)]) mixed ab (λ_ e=>e.drew) (λ_ h=>dj) ?_;refine ay ?_;refine aL rfl (λf b=>(r5 rfl rfl rfl aa aa aa aG)) ?_;refine aL rfl (λf b=>(bD (q:=y/64) qP rfl rfl rfl a7 aa aa aG)) ?_;refine aL rfl (λf b=>(ba py rfl rfl (λN l=>by subst l;exact (GJ b (Has.tail Has.head) k)) aG)) ?_;refine aq ?_;refine aL rfl (λf b=>(m6 rfl rfl rfl aa aa aG)) ?_;refine aL rfl (λf b=>(ox (r:=((2 ^ (y%64):Nat):Int)) rfl rfl rfl aa (GF y) aG)) ?_;refine aL rfl (λf b=>(mz (r:=((v ||| 2 ^ (y%64):Nat):Int)) rfl rfl rfl (or_eq (m:=v) (n:=2 ^ (y%64)) rfl rfl t (GH y) (GG (GB t (iw _ a1)))) aG)) ?_;refine aL rfl (λf b=>(bD (q:=y/64) qP rfl rfl rfl a7 aa aa aG)) ?_;refine ar ?_;refine kW (o:=y/64) py rfl rfl eo (by simp[Addr.add_lit]) rfl (by rw[iG.dH];show _<ws.length*1;omega) ?_;refine aS ?_;intro I e;rw[show y/64*iG.sz+0=y/64 by simp[iG]] at B
 dsimp only at e
 rw[B] at e
 refine k3.of (⟨some ⟨a,0,none⟩,m,c,ws.set (y/64) (v ||| 2 ^ (y%64))⟩ :e5) ⟨d.nz.set k s,by rw[mF];exact d.le,by simpa using u,d.m16⟩ (e.both bv.head bv.head);refine ar ?_;intro I e;rw[GI p];exact k3.of i d e
theorem GL (w:World) (g:Nat) (bs:List Bool) (i:e5) (d:hL bs i) (h: (eA g bs.length i).pred w) (C: (eA g bs.length i).ce.Nodup) (x:Int) (J: -9223372036854775808≤x∧x≤9223372036854775807):
 Calls prog 192 [ptr g,.int .i64 x].toArray w (eg g bs.length i (mE bs x false) w):=by
 have K:=gu.of h d.len
 refine calls (n:=20) func192 rfl ntmps192 rfl ?_;refine cG (H':=af w (eA g bs.length i).ce [eA g bs.length i]) ?_ (Sub.refl _) (λx D=>af.qJ D h C);refine aS ?_;refine ao rfl EO rfl (λw' E=>GE w' g _ i (gu.of (E.has Has.head) d.len) x) ?_;refine ar ?_;refine aj (λp=>?_) (λp=>?_);obtain⟨y,rfl⟩ : ∃y:Nat,x=(y:Int):=⟨x.toNat,aa⟩;have s:y<bs.length:=by omega
 obtain⟨v,k,t,b⟩:=xz d s;have u:=d.len
 obtain⟨A,m,c,ws⟩:=i;dsimp only at k b u
 refine wY bv.head ?_;refine hv (Has.tail Has.head) (λL c' F _ _ _ G=>?_);injection F with l M H
 subst l H;obtain⟨a,z⟩:=G (by show 0<m;omega);dsimp only at z
 subst z;have B:=iG.pr (j:=0) (a':=v &&& (18446744073709551615 - 2 ^ (y%64))) (v:= .int .u64 ((v &&& (18446744073709551615 - 2 ^ (y%64)):Nat):Int)) k a1 rfl
 refine ew [0,1,2,3,4,5,6,7,8,9,10,11,12] 1 [[(13,true,[])]] (af w (eA g bs.length ⟨some ⟨a,0,none⟩,m,c,ws⟩).ce [aD g (xy bs.length ⟨some ⟨a,0,none⟩,m,c,ws⟩) 253,own 34 1 (.slice (some ⟨a,0,none⟩) m c) m (iG.all ws)]) mixed ab (λ_ e=>e.drew) (λ_ h=>dj) ?_;refine ay ?_;refine aL rfl (λf b=>(r5 rfl rfl rfl aa aa aa aG)) ?_;refine aL rfl (λf b=>(bD (q:=y/64) qP rfl rfl rfl a7 aa aa aG)) ?_;refine aL rfl (λf b=>(ba py rfl rfl (λN l=>by subst l;exact (GJ b (Has.tail Has.head) k)) aG)) ?_;refine aq ?_;refine aL rfl (λf b=>(m6 rfl rfl rfl aa aa aG)) ?_;refine aL rfl (λf b=>(ox (r:=((2 ^ (y%64):Nat):Int)) rfl rfl rfl aa (GF y) aG)) ?_;refine aL rfl (λf b=>(uz (r:=((v &&& (18446744073709551615 - 2 ^ (y%64)):Nat):Int)) rfl rfl rfl (Fq (m:=v) (n:=2 ^ (y%64)) rfl rfl t (GH y) (GG (qB Nat.and_le_left t))) aG)) ?_;refine aL rfl (λf b=>(bD (q:=y/64) qP rfl rfl rfl a7 aa aa aG)) ?_;refine ar ?_;refine kW (o:=y/64) py rfl rfl eo (by simp[Addr.add_lit]) rfl (by rw[iG.dH];show _<ws.length*1;omega) ?_;refine aS ?_;intro I e;rw[show y/64*iG.sz+0=y/64 by simp[iG]] at B
 dsimp only at e
 rw[B] at e
 refine k3.of (⟨some ⟨a,0,none⟩,m,c,ws.set (y/64) (v &&& (18446744073709551615 - 2 ^ (y%64)))⟩ :e5) ⟨d.nz.QI k s,by rw[mF];exact d.le,by simpa using u,d.m16⟩ (e.both bv.head bv.head);refine ar ?_;intro I e;rw[GI p];exact k3.of i d e
theorem GM: ∀m:Nat,iG.all (List.replicate m 0)=List.replicate m (Value.int .u64 0)
 | 0=>rfl
 | m+1=>by rw[mn,mn,←GM m];rfl
theorem AA (w:World) (g:Nat) (bs:List Bool) (i:e5) (b:hL bs i) (h: (eA g bs.length i).pred w) (f: (eA g bs.length i).ce.Nodup) (ai:0<bs.length):
 Calls prog 251 [ptr g].toArray w (eg g bs.length i (List.replicate bs.length false) w):=by
 refine calls (n:=8) func251 rfl ntmps251 rfl ?_;refine cG (H':=af w (eA g bs.length i).ce [eA g bs.length i]) ?_ (Sub.refl _) (λx j=>af.qJ j h f);refine aC ?_;have k:=b.nz.ee
 have l:=b.len
 obtain⟨A,m,c,ws⟩:=i;dsimp only at k l
 refine wY bv.head ?_;refine hv (Has.tail Has.head) (λt c' o _ _ _ p=>?_);injection o with q u r
 subst q r;obtain⟨a,d⟩:=p (by show 0<m;omega);dsimp only at d
 subst d;have s:=GM m
 refine ay ?_;refine OX underlying251 zeroValue34 rfl rfl (show 0<m by omega) rfl eo ?_;refine ar ?_;intro v e;rw[←s] at e
 exact k3.of (⟨some ⟨a,0,none⟩,m,c,List.replicate m 0⟩ :e5) ⟨cS.e9 m bs.length aa,by simpa using b.le,by simp,b.m16⟩ (e.both bv.head bv.head)
def mG (w:World):Prop:=TabAt (GC.g 1) Lib.deBruijn64tab w
theorem mG.ext {w w':World} (h:mG w) (b:Ext [] w w'):mG w':=λj a=>by
 rw[b.cell (World.block_lt_of_cell? _ _ (h j a)) av];exact h j a
theorem QR (w:World) (a:mG w) (v:Nat) (b:v<2 ^ 64):Calls prog 377 [.int .u64 (v:Int)].toArray w (λe w'=>e= .returned (.int .i64 (Lib.ctz 64 v:Int))∧Ext [] w w'):=
 (Any7.bits_TrailingZeros64 QN v b w (λ_=>a)).mono λ_ _ ⟨c,d⟩=>⟨c,d▸Ext.refl _ _⟩
theorem QS (w:World) (v:Nat) (c:v<2 ^ 64):Calls prog 378 [.int .u64 (v:Int)].toArray w (λe w'=>e= .returned (.int .i64 (64 - (Lib.bitLen v:Int)))∧Ext [] w w'):=
 (Any.bits_LeadingZeros64 QP (v:Int) w aa aa).mono λ_ _ ⟨a,b⟩=>⟨by rw[a,gZ],b▸Ext.refl _ _⟩
theorem QT (w:World) (o:mG w) (g:Nat) (bs:List Bool) (i:e5) (d:hL bs i) (h:gu w g bs.length i) (x:Nat) (J:x<bs.length):
 Calls prog 307 [ptr g,.int .i64 (x:Int)].toArray w (λe w'=>e= .returned (.int .i64 (jh bs x:Int))∧Ext [] w w'):=by
 have K:=d.le
 refine aW func307 ntmps307 ?_;refine b5 ?_;refine b3 (ι:=Nat) (λy=>[(0,ptr g),(1,.int .i64 (y:Int))]) (λ_=>af w [] []) (λy=>x<y∧y≤1100∧ ∀z,x<z→z<y→b_ bs z=false) (λy=>1100 - y) ?_ ?_;exact λw b=>⟨x+1,⟨aa,aa,by intro z c f;omega⟩,(iA rfl rfl),b⟩
 rintro y ⟨p,L,j⟩;refine aC ?_;refine ba bM rfl rfl (λw' a=>a.ct h.c1 av) ?_;refine ah ?_;refine aj (λs=>?_) (λs=>?_);have t:y<bs.length:=by omega
 obtain⟨v,k,A,n⟩:=xz d t;obtain⟨bX,B,_,C⟩:=h.rd.at_ k;have D:v/2 ^ (y%64)<2 ^ 64:=qB (Nat.div_le_self _ _) A
 refine aJ ?_;refine ba DT rfl rfl (λw' a=>a.ct h.c0 av) ?_;refine aq ?_;refine r5 rfl rfl rfl aa aa aa ?_;refine bD (q:=y/64) qP rfl rfl rfl B aa aa ?_;refine ba py rfl rfl (λw' a=>a.ct (C 0 _ rfl) av) ?_;refine aq ?_;refine m6 rfl rfl rfl aa aa ?_;refine pM (r:=((v/2 ^ (y%64):Nat):Int)) rfl rfl rfl aa (QQ v y) ?_;refine aJ ?_;generalize l:v/2 ^ (y%64)=u at *
 refine aj (λE=>?_) (λE=>?_);have m:v/2 ^ (y%64)≠0:=by rw[l];omega
 obtain⟨c,f,F⟩:=d.nz.QJ k p j m;rw[l] at c f F
 refine aq ?_;refine ew [0,1,4,5,6,7,8] 1 [[(2,false,[3,9,10])]] (af w [] []) mixed ab (λ_ b=>b.drew) (λ_ h=>dj) ?_;refine ay ?_;refine aL rfl (λM n=>(ba bM rfl rfl (λN G=>by subst G;exact (n.ct h.c1 av)) aG)) ?_;refine ah ?_;refine ao rfl Oq rfl (λw' a=>QR w' (o.ext a.ext) u D) ?_;refine bY (λ_=>True) (λ_ h=> .inr dj) (λ_ h=>aU) ?_;refine bH ?_;intro H b;refine⟨?_,b.ext⟩;rw[c];congr 2
 omega
 have m:v/2 ^ (y%64)=0:=by rw[l];omega
 have I:=d.nz.QK k j m
 refine ay ?_;refine r5 rfl rfl rfl aa aa aa ?_;refine aq ?_;refine kV rfl rfl rfl (wrap64 aa aa) ?_;refine ar ?_;refine bg ((y/64+1)*64) ⟨aa,aa,I⟩ aa (iA rfl rfl) (λw' a=>a);refine aR ?_;refine ba bM rfl rfl (λw' a=>a.ct h.c1 av) ?_;refine al ?_;intro H b;refine⟨?_,b.ext⟩;rw[Gx (λz c f=>j z c aa)];congr 2
 omega
theorem QU (v y:Nat):IntKind.u64.wrap ((v:Int)*2 ^ min (63 - (y:Int)%64).toNat IntKind.u64.bits)=((v*2 ^ (63 - y%64)%2 ^ 64 :Nat):Int):=by
 have e:min (63 - (y:Int)%64).toNat IntKind.u64.bits=63 - y%64:=by simp only[IntKind.bits];omega
 rw[e];have: ((v:Int)*2 ^ (63 - y%64))=((v*2 ^ (63 - y%64):Nat):Int):=by simp
 rw[this];generalize v*2 ^ (63 - y%64)=u
 simp[IntKind.wrap,IntKind.bits,IntKind.signed]
theorem QV (w:World) (g:Nat) (bs:List Bool) (i:e5) (c:hL bs i) (h:gu w g bs.length i) (x:Nat) (F:x<bs.length):
 Calls prog 309 [ptr g,.int .i64 (x:Int)].toArray w (λe w'=>e= .returned (.int .i64 (iF bs x:Int))∧Ext [] w w'):=by
 have G:=c.le
 refine aW func309 ntmps309 ?_;refine b5 ?_;refine b3 (ι:=Nat) (λy=>[(0,ptr g),(1,.int .i64 ((y:Int) - 1))]) (λ_=>af w [] []) (λy=>y≤x∧ ∀z,y≤z→z<x→b_ bs z=false) (λy=>y) ?_ ?_;exact λw b=>⟨x,⟨cd _,by intro z f d;omega⟩,(iA rfl rfl),b⟩
 rintro j ⟨H,l⟩;refine aC ?_;refine aj (λo=>?_) (λo=>?_);obtain⟨y,rfl⟩ : ∃y,j=y+1:=⟨j - 1,aa⟩;rw[show ((y+1 :Nat):Int) - 1=(y:Int) by omega];have p:y<bs.length:=by omega
 obtain⟨v,k,I,J⟩:=xz c p;obtain⟨bX,s,_,t⟩:=h.rd.at_ k;have m:v*2 ^ (63 - y%64)%2 ^ 64<2 ^ 64:=iw _ a1
 refine aJ ?_;refine ba DT rfl rfl (λw' a=>a.ct h.c0 av) ?_;refine aq ?_;refine r5 rfl rfl rfl aa aa aa ?_;refine bD (q:=y/64) qP rfl rfl rfl s aa aa ?_;refine ba py rfl rfl (λw' a=>a.ct (t 0 _ rfl) av) ?_;refine aq ?_;refine m6 rfl rfl rfl aa aa ?_;refine aq ?_;refine ox (r:=((v*2 ^ (63 - y%64)%2 ^ 64 :Nat):Int)) rfl rfl rfl aa (QU v y) ?_;refine aJ ?_;have n: ∀z,y<z→z<x→b_ bs z=false:=λz f d=>l z aa d
 have A:=c.nz.QL k (show y<x by omega) n
 have B:=c.nz.QM k n
 generalize K:v*2 ^ (63 - y%64)%2 ^ 64=u at *
 refine aj (λC=>?_) (λC=>?_);have f:=A aa
 have L:=Lib.bitLen_le u 64 a1 m
 refine aS ?_;refine ao rfl Ot rfl (λw' a=>QS w' u m) ?_;refine bo ?_;intro D b;refine⟨?_,b.ext⟩;rw[f];have E:=B aa
 refine ay ?_;refine r5 rfl rfl rfl aa aa aa ?_;refine kV rfl rfl rfl (wrap64 aa aa) ?_;refine ah ?_;refine bg (64*(y/64)) ⟨aa,E⟩ aa (Sub.cons a7 (Sub.cons ?_ Sub.nil)) (λw' a=>a);show some _=some _
 congr 2
 omega
 obtain rfl:j=0:=by omega
 refine bw ?_;intro D b;refine⟨?_,b.ext⟩;rw[QG (λz d=>l z (bN _) d)];rfl
theorem GN (w:World) (g n:Nat) (i:e5) (h:gu w g n i) (v:0<n∧n≤1000) (c:FuncId) (o:ad prog c) (cap:List Value) (F:Nat→Nat) (p: ∀x,x<n→F x<n)
 (q: ∀w',Ext [] w w'→ ∀x,x<n→Calls prog c ([]++[Value.int .i64 (x:Int)]++cap).toArray w' (λe r=>e= .returned (.int .i64 (F x:Int))∧Ext [] w' r)) (x k:Int):
 Calls prog 305 [ptr g,.int .i64 x,.int .i64 k,.func (.func c) ([]:List Value).toArray cap.toArray].toArray w (λe w'=>e= .returned (.int .i64 (ny F n x k:Int))∧Ext [] w w'):=by
 obtain⟨N,f⟩ : ∃N:Nat,min (max 0 k) (n:Int)=(N:Int):=⟨(min (max 0 k) (n:Int)).toNat,aa⟩;obtain⟨b,l⟩ : ∃b:Nat,max 0 (min x ((n:Int) - 1))=(b:Int):=⟨(max 0 (min x ((n:Int) - 1))).toNat,aa⟩;have m:ny F n x k=iter F N b:=by
  unfold ny xv;rw[f,l,gZ,gZ]
 have s:b<n:=by omega
 rw[m];clear m;refine aW func305 ntmps305 ?_;refine gN ?_;refine ba bM rfl rfl (λw' a=>a.ct h.c1 av) ?_;refine b5 ?_;refine ba bM rfl rfl (λw' a=>a.ct h.c1 av) ?_;refine ay ?_;rw[f,l];refine b3 (ι:=Nat) (λj=>[(1,.int .i64 (iter F j b:Int)),(3,.func (.func c) ([]:List Value).toArray cap.toArray),(25,.int .i64 (N:Int)),(26,.int .i64 (j:Int))]) (λ_=>af w [] []) (λj=>j≤N) (λj=>N - j) ?_ ?_;exact λw d=>⟨0,bN _,(cu rfl rfl rfl rfl),d⟩
 intro j y;have t:=uW p j b s
 refine al ?_;refine aj (λu=>?_) (λu=>?_);refine aC ?_;refine gK (first:=[]) rfl rfl o rfl (λw' a=>q w' a.ext _ t) ?_;refine aK ?_;exact bg (j+1) aa aa bO (λw' a=>a);obtain rfl:j=N:=by omega
 refine bH ?_;intro z d;exact⟨rfl,d.ext⟩
theorem QW (w:World) (c:mG w) (a g:Nat) (bs:List Bool) (i:e5) (d:hL bs i) (h:gu w g bs.length i) (f:w.cell? ⟨a,0,none⟩=some (ptr g)) (x:Nat) (j:x<bs.length):
 Calls prog 306 [.int .i64 (x:Int),ptr a].toArray w (λe w'=>e= .returned (.int .i64 (jh bs x:Int))∧Ext [] w w'):=by
 refine aW func306 ntmps306 ?_;refine aC ?_;refine ba zk rfl rfl (λw' b=>b.ct f av) ?_;refine aq ?_;refine ao rfl NS rfl (λw' b=>QT w' (c.ext b.ext) g bs i d (h.ext b.ext) x j) ?_;refine ay ?_;intro l k;exact⟨rfl,k.ext⟩
theorem QX (w:World) (a g:Nat) (bs:List Bool) (i:e5) (c:hL bs i) (h:gu w g bs.length i) (d:w.cell? ⟨a,0,none⟩=some (ptr g)) (x:Nat) (f:x<bs.length):
 Calls prog 308 [.int .i64 (x:Int),ptr a].toArray w (λe w'=>e= .returned (.int .i64 (iF bs x:Int))∧Ext [] w w'):=by
 refine aW func308 ntmps308 ?_;refine aC ?_;refine ba zk rfl rfl (λw' b=>b.ct d av) ?_;refine aq ?_;refine ao rfl NU rfl (λw' b=>QV w' g bs i c (h.ext b.ext) x f) ?_;refine ay ?_;intro k j;exact⟨rfl,j.ext⟩
theorem GO {w:World} {b:World} {S:List Nat} {cs:List Chunk} {a t:Nat} {v:Value} (h:af b S cs w) (c:Has cs (aD a [v] t)):w.cell? ⟨a,0,none⟩=some v:=h.eM c rfl
theorem QY (w:World) (j:mG w) (g:Nat) (bs:List Bool) (i:e5) (d:hL bs i) (h:gu w g bs.length i) (ai:0<bs.length) (x k:Int):
 Calls prog 212 [ptr g,.int .i64 x,.int .i64 k].toArray w (λe w'=>e= .returned (.int .i64 (ny (jh bs) bs.length x k:Int))∧Ext [] w w'):=by
 refine aW func212 ntmps212 ?_;refine ah ?_;intro b n o;refine aK ?_;refine wm (us:=[]) (vs:=[ptr b]) rfl rfl rfl ?_;refine ao rfl ER rfl (λw' a=>GN w' g _ i (h.ext a.ext) ⟨ai,d.le⟩ _ NR [ptr b] (jh bs) (λy f=>Gy y ai) (λl c y f=>QW l ((j.ext a.ext).ext c) b g bs i d ((h.ext a.ext).ext c) (GO (a.keep c) Has.head) y f) x k) ?_;refine ay ?_;intro p m;exact⟨rfl,m.ext⟩
theorem uG (w:World) (g:Nat) (bs:List Bool) (i:e5) (c:hL bs i) (h:gu w g bs.length i) (ai:0<bs.length) (x k:Int):
 Calls prog 213 [ptr g,.int .i64 x,.int .i64 k].toArray w (λe w'=>e= .returned (.int .i64 (ny (iF bs) bs.length x k:Int))∧Ext [] w w'):=by
 refine aW func213 ntmps213 ?_;refine ah ?_;intro a m n;refine aK ?_;refine wm (us:=[]) (vs:=[ptr a]) rfl rfl rfl ?_;refine ao rfl ER rfl (λw' b=>GN w' g _ i (h.ext b.ext) ⟨ai,c.le⟩ _ NT [ptr a] (iF bs) (λy d=>by have:=AW bs y;omega) (λj f y d=>QX j a g bs i c ((h.ext b.ext).ext f) (GO (b.keep f) Has.head) y d) x k) ?_;refine ay ?_;intro o l;exact⟨rfl,l.ext⟩
def ld (bs:List Bool) (n x:Nat):List Bool:=(List.range bs.length).map (λy=>if n≤y∧y<x then false else b_ bs y)
theorem oL (bs:List Bool) (n x:Nat): (ld bs n x).length=bs.length:=by simp[ld]
theorem uX (bs:List Bool) (n x y:Nat) (a:y<bs.length):b_ (ld bs n x) y=if n≤y∧y<x then false else b_ bs y:=by
 unfold ld;rw[b_,fy,eJ,rM a];rfl
theorem QZ (bs:List Bool) (n:Nat):ld bs n n=bs:=by
 refine sP (oL _ _ _) λy a=>?_
 rw[oL] at a
 rw[uX _ _ _ _ a,ag aa]
theorem Q0 {bs:List Bool} {n x:Nat} (c:n≤x) (d:x<bs.length):mE (ld bs n x) (x:Int) false=ld bs n (x+1):=by
 refine sP (by rw[mF,oL,oL]) λy a=>?_
 rw[mF,oL] at a
 rw[xw _ _ _ _ (by rw[oL];exact a),uX _ _ _ _ a,uX _ _ _ _ a];by_cases e:x=y
 subst e;rw[ax rfl,ax aa]
 rw[ag aa];by_cases b:n≤y∧y<x
 rw[ax b,ax aa];rw[ag b,ag aa]
def lf (bs:List Bool) (n x:Nat):List Bool:=(List.range n).map (λy=>if y<bs.length then b_ bs y else decide (y<x) && decide (y%8=0))
theorem mH (bs:List Bool) (n x:Nat): (lf bs n x).length=n:=by simp[lf]
theorem sQ (bs:List Bool) (n x y:Nat) (a:y<n):b_ (lf bs n x) y=if y<bs.length then b_ bs y else decide (y<x) && decide (y%8=0):=by
 unfold lf;rw[b_,fy,eJ,rM a];rfl
theorem Q1 {bs:List Bool} {n x:Nat} (c:bs.length≤x) (d:x<n):lf bs n (x+1)=if x%8=0 then mE (lf bs n x) (x:Int) true else lf bs n x:=by
 split
 rename_i b;refine sP (by rw[mF,mH,mH]) λy a=>?_
 rw[mH] at a
 rw[xw _ _ _ _ (by rw[mH];exact a),sQ _ _ _ _ a,sQ _ _ _ _ a];by_cases e:x=y
 subst e;rw[ax rfl,ag aa];simp[b]
 rw[ag (show ¬(x:Int)=(y:Int) by omega),show decide (y<x+1)=decide (y<x) from gG.2 aa];rename_i b;refine sP (by rw[mH,mH]) λy a=>?_
 rw[mH] at a
 rw[sQ _ _ _ _ a,sQ _ _ _ _ a];by_cases e:x=y
 subst e;rw[ag aa,ag aa];simp[b]
 rw[show decide (y<x+1)=decide (y<x) from gG.2 aa]
theorem Q2 {bs:List Bool} {n x:Nat} (b:n≤x):lf bs n x=jg bs n:=by
 refine sP (by rw[mH,p5]) λy a=>?_
 rw[mH] at a
 rw[sQ _ _ _ _ a,QD _ _ _ a,show decide (y<x)=true from b1 aa];simp
theorem Q3 {ws:List Nat} {bs:List Bool} {n x:Nat} (h:cS ws (ld bs n x)) (g:bs.length≤x) (d:n≤64*ws.length):cS ws (lf bs n bs.length):=by
 have f:=h.cut n d (λy b=>by
  rcases e1 y bs.length with a | a
  rw[uX _ _ _ _ a,ax aa];exact p4 (by rw[oL];exact a))
 have e: (List.range n).map (b_ (ld bs n x))=lf bs n bs.length:=by
  refine sP (by simp[lf]) λy b=>?_
  have c:y<n:=by simpa using b
  rw[sQ _ _ _ _ c,b_,fy,eJ,rM c];show b_ (ld bs n x) y=_
  rcases e1 y bs.length with a | a
  rw[uX _ _ _ _ a,ag aa,ax a];rw[p4 (by rw[oL];exact a),ag aa,cm aa];rfl
 exact e▸f
theorem pT (w:World) (g:Nat) (bs:List Bool) (i:e5) (p:hL bs i) (h: (eA g bs.length i).pred w) (C: (eA g bs.length i).ce.Nodup) (n:Nat) (N:2≤n∧n≤1000):
 Calls prog 129 [ptr g,.int .i64 (n:Int)].toArray w (k3 (λ_=>Value.int .i64 0) (eA g bs.length i) (λj=>eA g n j) (λj=>hL (jg bs n) j) w):=by
 have O:=p.le
 have P:=gu.of h p.len
 refine calls (n:=61) func129 rfl ntmps129 rfl ?_;refine cG (H':=af w (eA g bs.length i).ce [eA g bs.length i]) ?_ (Sub.refl _) (λx D=>af.qJ D h C);refine b5 ?_;refine ao rfl Em rfl (λw' d=>uC w' n) ?_;refine ay ?_;refine fL rfl ((by rw[b1 (show 2≤(n:Int)∧(n:Int)≤1000 by omega)];rfl)) ?_;refine aC ?_;refine ba bM rfl rfl (λw' d=>(gu.of (d.has Has.head) p.len).c1) ?_;refine bo ?_;refine b3 (ι:=Nat × e5) (λs=>[(0,ptr g),(1,.int .i64 (n:Int)),(5,.int .i64 (bs.length:Int)),(6,.int .i64 (s.1 :Int))]) (λs=>af w (eA g bs.length i).ce [eA g bs.length s.2]) (λs=>n≤s.1∧s.1≤1000+n∧hL (ld bs n s.1) s.2) (λs=>1000+n - s.1) ?_ ?_;exact λw f=>⟨(n,i),⟨cd _,by dsimp only;omega,by rw[QZ];exact p⟩,(cu rfl rfl rfl rfl),f⟩
 rintro⟨x,j⟩ ⟨k,r,e⟩;dsimp only at k r e ⊢
 refine aK ?_;refine aj (λE=>?_) (λE=>?_);have l:=λw' a b=>GL w' g (ld bs n x) j e a b (x:Int) aa
 rw[oL,Q0 k aa] at l
 refine aC ?_;refine Ad (λj=>[eA g bs.length j]) rfl Ex rfl (λ_=>bn.head) (λw' d=>l w' (d.has Has.head) (by simpa [aB] using d.nodup)) (λt u=>?_);refine aK ?_;exact bg (x+1,t) ⟨by dsimp only;omega,by dsimp only;omega,u⟩ bm bO (λw' d=>d);refine aC ?_;obtain⟨A,m,c,ws⟩:=j;have B:=e.len
 have o:=e.m16
 dsimp only at B o
 refine wY bv.head ?_;refine b3 (ι:=Value × Nat × List Nat) (λs=>[(0,ptr g),(1,.int .i64 (n:Int)),(5,.int .i64 (bs.length:Int))]) (λs=>af w (eA g bs.length i).ce [aD g [s.1,.int .i64 (bs.length:Int)] 253,own 34 1 s.1 s.2.1 (iG.all s.2.2)]) (λs=>s.2.2.length=s.2.1∧s.2.1≤16∧cS s.2.2 (ld bs n x)) (λs=>17 - s.2.1) ?_ ?_;exact λw f=>⟨(.slice A m c,m,ws),⟨B,o,e.nz⟩,(dZ rfl rfl rfl),f⟩
 rintro⟨v,m,ws⟩ ⟨y,o,z⟩;dsimp only at y o z ⊢
 refine hv (Has.tail Has.head) (λA c F Q R _ S=>?_);subst F;refine aK ?_;refine kV rfl rfl rfl (wrap64 aa aa) ?_;refine aS ?_;refine aj (λG=>?_) (λG=>?_);refine aR ?_;intro T U V;refine gm qP rfl rfl rfl bi (λ_=>by exact eo) rfl (ic rfl) (by simp only[maxLen];omega) aa (λW X=>?_);refine ar ?_;refine iX (Has.tail Has.head) (λH I J _ _ _ _=>?_);subst J;refine ah ?_;refine bg (.slice H (m+1) I,m+1,ws++[0]) ⟨by simp[y],by dsimp only;omega,z.ow⟩ bm (dZ rfl rfl rfl) (λw' d=>?_);dsimp only;rw[bA.hc];exact d;have K:=Q3 z aa aa
 refine kq ?_;refine cG (H':=af w (eA g bs.length i).ce [eA g n ⟨A,m,c,ws⟩]) ?_ (Sub.refl _) (λw' d=>d.both bv.head bv.head);refine b3 (ι:=Nat × e5) (λs=>[(0,ptr g),(1,.int .i64 (n:Int)),(7,.int .i64 (s.1 :Int))]) (λs=>af w (eA g bs.length i).ce [eA g n s.2]) (λs=>bs.length≤s.1∧s.1≤1000+bs.length∧hL (lf bs n s.1) s.2) (λs=>1000+bs.length - s.1) ?_ ?_;exact λw f=>⟨(bs.length,⟨A,m,c,ws⟩),⟨cd _,by dsimp only;omega,⟨K,by rw[mH];omega,y,o⟩⟩,(dZ rfl rfl rfl),f⟩
 rintro⟨x,j⟩ ⟨k,r,e⟩;dsimp only at k r e ⊢
 refine aK ?_;refine aj (λL=>?_) (λL=>?_);have q:=Q1 (bs:=bs) k (show x<n by omega)
 refine aC ?_;refine m6 rfl rfl rfl aa aa ?_;refine ah ?_;refine aj (λM=>?_) (λM=>?_);rw[ax aa] at q
 have l:=λw' a b=>GK w' g (lf bs n x) j e a b (x:Int) aa
 rw[mH] at l
 refine ah ?_;refine Ad (λj=>[eA g n j]) rfl zJ rfl (λ_=>bn.head) (λw' d=>l w' (d.has Has.head) (by simpa [aB] using d.nodup)) (λt u=>?_);refine aK ?_;exact bg (x+1,t) ⟨by dsimp only;omega,by dsimp only;omega,by dsimp only;rw[q];exact u⟩ bm bO (λw' d=>d);rw[ag aa] at q
 refine aK ?_;exact bg (x+1,j) ⟨by dsimp only;omega,by dsimp only;omega,by dsimp only;rw[q];exact e⟩ bm bO (λw' d=>d);refine bw ?_;intro Y f;rw[Q2 aa] at e
 exact k3.of j e f
theorem Q4:hL [] ⟨none,0,0,[]⟩:=⟨⟨by simp,by simp,λx=>by simp[lP,b_]⟩,by simp,rfl,by simp⟩
theorem uY (w:World) (n:Nat) (c:2≤n∧n≤1000):
 Calls prog 99 [.int .i64 (n:Int)].toArray w (fb (λs:Nat × e5=>Value.tuple #[ptr s.1,.int .i64 0]) (λs=>eA s.1 n s.2) (λs=>hL (jg [] n) s.2) w):=by
 refine aW func99 ntmps99 ?_;refine aR ?_;refine ao rfl Em rfl (λw' a=>uC w' n) ?_;refine ah ?_;refine fL rfl ((by rw[b1 (show 2≤(n:Int)∧(n:Int)≤1000 by omega)];rfl)) ?_;refine al ?_;intro b f g;refine aC ?_;refine ha (H':=af w [] [eA b 0 ⟨none,0,0,[]⟩]) ?_ (Sub.refl _) (λw' a=>(a.y7 34 1).both (bv.tail bv.head) bv.head);refine Ad (λj=>[eA b n j]) rfl wG rfl (λ_=>bn.head) (λw' a=>pT w' b [] _ Q4 (a.has Has.head) (by simpa [aB] using a.nodup) n c) (λj d=>?_);refine bo ?_;intro h e;exact fb.of (b,j) d e
end Go.Proofs.YtkeokgcdnfjaaaaGreatDoor.Mq.cK
namespace Go.Proofs.YtkeokgcdnfjaaaaGreatDoor.Mq
open Go Go.RowKit Go.Proofs Tryz
structure fO where
 fs:Int
 s1:Int
 s2:Int
 lg:Int
 use:Int
 jU:Int
abbrev fO.enc (c:fO):List Value:=[.int .i64 c.fs,.int .i64 c.s1,.int .i64 c.s2,.int .i64 c.lg,.int .i64 c.use,.int .i64 c.jU]
structure gv where
 at_:hF
 aF:fO
 put:Bool
 wrap:Bool
 home:Bool
abbrev gv.enc (p:gv):List Value:=[.int .i64 p.at_.dg,.int .i64 p.at_.fn,.int .i64 p.at_.an,.int .i64 p.at_.aM,.int .i64 p.at_.fl,.int .i64 p.aF.fs,.int .i64 p.aF.s1,.int .i64 p.aF.s2,.int .i64 p.aF.lg,.int .i64 p.aF.use,.int .i64 p.aF.jU,.bool p.put,.bool p.wrap,.bool p.home]
structure sR where
 g:Nat
 bs:List Bool
 i:cK.e5
abbrev sR.aF (s:sR):Chunk:=cK.eA s.g s.bs.length s.i
structure bk where
 g:Nat
 bf:gv
 ap:bq
 st:sR
 y:Int
 x:Int
 top:Int
 cO:Int
 fP:gv
 kw:Int
 kx:Int
 has:Bool
 last:Int
abbrev eU (s:bk):List Value:=[.int .i64 s.bf.at_.dg,.int .i64 s.bf.at_.fn,.int .i64 s.bf.at_.an,.int .i64 s.bf.at_.aM,.int .i64 s.bf.at_.fl,.int .i64 s.bf.aF.fs,.int .i64 s.bf.aF.s1,.int .i64 s.bf.aF.s2,.int .i64 s.bf.aF.lg,.int .i64 s.bf.aF.use,.int .i64 s.bf.aF.jU,.bool s.bf.put,.bool s.bf.wrap,.bool s.bf.home,
 ptr s.ap.g,ptr s.st.g,.int .i64 s.y,.int .i64 s.x,.int .i64 s.top,.int .i64 s.cO,
 .int .i64 s.fP.at_.dg,.int .i64 s.fP.at_.fn,.int .i64 s.fP.at_.an,.int .i64 s.fP.at_.aM,.int .i64 s.fP.at_.fl,.int .i64 s.fP.aF.fs,.int .i64 s.fP.aF.s1,.int .i64 s.fP.aF.s2,.int .i64 s.fP.aF.lg,.int .i64 s.fP.aF.use,.int .i64 s.fP.aF.jU,.bool s.fP.put,.bool s.fP.wrap,.bool s.fP.home,.int .i64 s.kw,.int .i64 s.kx,
 .bool s.has,.int .i32 s.last]
abbrev bk.an (s:bk):Chunk:=aD s.g (eU s) 113
abbrev aO (s:bk):List Chunk:=[s.an,s.ap.an,aT (b9 s.ap.r),s.ap.s.au,s.ap.s.cc,s.ap.be.au,s.st.aF]
structure bd where
 bf:gv
 bC:bZ
 y:Int
 x:Int
 top:Int
 cO:Int
 fP:gv
 kw:Int
 kx:Int
 has:Bool
 last:Int
 xA:List Bool
def bk.abs (s:bk):bd:=⟨s.bf,s.ap.abs,s.y,s.x,s.top,s.cO,s.fP,s.kw,s.kx,s.has,s.last,s.st.bs⟩
abbrev bd.rows (s:bd):Int:=s.bC.cF.length
abbrev bd.cols (s:bd):Int:=s.bC.cols
structure dV (s:bd):Prop where
 bC:cZ s.bC
 y:0≤s.y∧s.y<s.rows
 x:0≤s.x∧s.x≤s.cols
 top:0≤s.top∧s.top≤s.cO∧s.cO<s.rows
structure dO (s:bk):Prop where
 r:cV s.ap.r
 st:cK.hL s.st.bs s.st.i
 n: (s.st.bs.length:Int)=s.ap.cols
structure hM (s:bk) (q:bd) (z:bk):Prop where
 g:z.g=s.g
 ap:z.ap.g=s.ap.g
 st:z.st.g=s.st.g
 wf:dO z
 abs:z.abs=q
def ft (n lo hi:Int):Int:=max lo (min n hi)
def fu (s:bd):Int:=min s.x (s.cols - 1)
def gh (s:bd) (f:bZ→bZ):bd:={ s with bC:=f s.bC }
def an (s:bd):Int:=s.bf.at_.an
def aM (s:bd):Int:=s.bf.at_.aM
def iH (s:bd):bd × Bool:=
 let s:={ s with x:=fu s }
 if s.y=s.cO then (gh s (λp=>hK p s.top s.cO 1 (λp a b=>mD p a b (an s) (aM s))),true)
 else if s.y<s.rows - 1 then ({ s with y:=s.y+1 },true) else (s,false)
def jV (s:bd) (w:Int):bd:=
 if s.x+w≤s.cols then s else
 if s.bf.wrap=false then { s with x:=s.cols - w } else
 let s:=if s.x<s.cols then gh s (λp=>xm p s.y) else s
 let t:=iH s
 let s:={ t.1 with x:=0 }
 if t.2=true then gh s (λp=>iC p s.y true) else s
def q9 (s:bd) (r:Int):bd:=
 let w:=dw r
 let s:=if w=0 then gh s (λp=>xl p s.y (s.x - 1) r) else s
 if w<1 then s else
 let s:=jV s w
 let s:=if s.bf.put=true then gh s (λp=>uO p s.y s.x w (an s) (aM s)) else s
 let s:=gh s (λp=>uN p s.y s.x r s.bf.at_)
 { s with x:=s.x+w,last:=r }
theorem jW (w:World) (s:bk) (a:s.an.pred w):Calls prog 15 [ptr s.g].toArray w (Pure (ptr s.ap.g) w):=by
 refine aW func15 ntmps15 ?_;refine hh ?_;refine ba LD rfl rfl (λd b=>b.bV a (by (simp;done)) rfl) ?_;refine ay ?_;intro e c;exact⟨rfl,c.ext⟩
theorem Q5 (w:World) (s:bk) (c:s.an.pred w) (ai:s.ap.an.pred w):Calls prog 194 [ptr s.g].toArray w (Pure (.int .i64 (s.ap.s.l.length:Int)) w):=by
 refine aW func194 ntmps194 ?_;refine aK ?_;refine ao rfl jO rfl (λa b=>jW a s (b.dD c av)) ?_;refine ao rfl pA rfl (λa b=>pU a s.ap (b.dD ai av)) ?_;refine ay ?_;intro e d;exact⟨rfl,d.ext⟩
theorem GP (w:World) (s:bk) (c:s.an.pred w) (ai:s.ap.an.pred w):Calls prog 226 [ptr s.g].toArray w (Pure (.int .i64 s.ap.cols) w):=by
 refine aW func226 ntmps226 ?_;refine aK ?_;refine ao rfl jO rfl (λa b=>jW a s (b.dD c av)) ?_;refine ao rfl zP rfl (λa b=>Ay a s.ap (b.dD ai av)) ?_;refine ay ?_;intro e d;exact⟨rfl,d.ext⟩
theorem lh (w:World) (s:bk) (a:s.an.pred w):Calls prog 304 [ptr s.g].toArray w (Pure (.agg [.int .i64 s.bf.at_.an,.int .i64 s.bf.at_.aM].toArray) w):=by
 refine aW func304 ntmps304 ?_;refine ah ?_;intro e f h;refine aJ ?_;refine cw gq rfl rfl rfl (λi b j u c=>b.jy (sz:=2) a (by (simp;done)) rfl j u c) ?_;refine ay ?_;intro k d;exact⟨rfl,d.ext⟩
theorem ji (w:World) (s:bk) (a:s.an.pred w) (ai:s.ap.an.pred w) (h:2≤s.ap.cols∧s.ap.cols≤1000):Calls prog 211 [ptr s.g].toArray w (Pure (.int .i64 (min s.x (s.ap.cols - 1))) w):=by
 refine aW func211 ntmps211 ?_;refine al ?_;refine bG [0,1,2,3,4] 1 [[(5,false,[6,7,8])]] ?_;refine ah ?_;refine aL rfl (λi c=>(ba bM rfl rfl (λj d=>by subst d;exact c.bV a (by (simp;done)) rfl) aG)) ?_;refine ah ?_;refine ao rfl jv rfl (λe b=>GP e s (b.dD a av) (b.dD ai av)) ?_;refine aJ ?_;intro k f;exact⟨rfl,f.ext⟩
theorem nA (w:World) (n lo hi:Int):Calls prog 321 [.int .i64 n,.int .i64 lo,.int .i64 hi].toArray w (Pure (.int .i64 (ft n lo hi)) w):=by
 refine aW func321 ntmps321 ?_;refine ef ?_;intro b a;exact⟨rfl,a.ext⟩
def eg (s:bk) (v:Value) (q:bd) (w:World):Ending→World→Prop:=aP (λ_:bk=>v) (aO s) aO (hM s q) w
structure cP (k:Nat) (s q:bd):Prop where
 wf:dV s→dV q
 rows:q.bC.cF.length=s.bC.cF.length
 cols:q.bC.cols=s.bC.cols
 room:q.bC.room=s.bC.room
 be:q.bC.f_.length≤s.bC.f_.length+k
theorem cP.refl (s:bd):cP 0 s s:=⟨id,rfl,rfl,rfl,aa⟩
theorem cP.trans {a b:Nat} {p q r:bd} (h:cP a p q) (k:cP b q r):cP (a+b) p r:=⟨λx=>k.wf (h.wf x),k.rows.trans h.rows,k.cols.trans h.cols,k.room.trans h.room,by have:=h.be;have:=k.be;omega⟩
theorem cP.mono {a b:Nat} {p q:bd} (h:cP a p q) (c:a≤b):cP b p q:=⟨h.wf,h.rows,h.cols,h.room,by have:=h.be;omega⟩
theorem hN (s:bd) {f:bZ→bZ} {k:Nat} (h:Kept k s.bC (f s.bC)):cP k s (gh s f):=
 ⟨λw=>⟨h.wf w.bC,by show 0≤s.y∧s.y<((f s.bC).cF.length:Int);rw[h.rows];exact w.y,by show 0≤s.x∧s.x≤(f s.bC).cols;rw[h.cols];exact w.x,by show 0≤s.top∧s.top≤s.cO∧s.cO<((f s.bC).cF.length:Int);rw[h.rows];exact w.top⟩,h.rows,h.cols,h.room,h.be⟩
theorem oM (s:bd) {x:Int} (h:dV s→0≤x∧x≤s.cols):cP 0 s { s with x:=x }:=⟨λw=>⟨w.bC,w.y,h w,w.top⟩,rfl,rfl,rfl,by show s.bC.f_.length≤_;omega⟩
theorem GQ (s:bd) {y:Int} (h:dV s→0≤y∧y<s.rows):cP 0 s { s with y:=y }:=⟨λw=>⟨w.bC,h w,w.x,w.top⟩,rfl,rfl,rfl,by show s.bC.f_.length≤_;omega⟩
theorem xB {s:bd} (w:dV s):0≤fu s∧fu s≤s.cols:=by
 have a:=w.bC.cols
 have b:=w.x
 simp only[fu,bd.cols] at *
 omega
theorem xC (p:bZ) (x y:Int) {f:bZ→Nat→Nat→bZ} (c: ∀q a b,a<q.cF.length→b<q.cF.length→Kept 2 q (f q a b)):Kept 2 p (hK p x y 1 f):=by
 unfold hK;split
 rename_i h;obtain⟨⟨d,e⟩,⟨g,i⟩,j⟩:=h;exact (uQ (λq k=>c q x.toNat y.toNat aa aa) _).mono aa;exact (Kept.refl p).mono aa
theorem sS (s:bd):cP 2 s (iH s).1:=by
 have c:cP 0 s { s with x:=fu s }:=oM s (λw=>xB w)
 unfold iH;dsimp only;split
 exact (c.trans (hN { s with x:=fu s } (f:=λp=>hK p s.top s.cO 1 (λp a b=>mD p a b (an s) (aM s))) (xC s.bC _ _ (λq a b d e=>uP q d e _ _)))).mono aa;split
 exact (c.trans (GQ _ (λw=>by have:=w.y;simp only[bd.rows] at *;omega))).mono aa;exact c.mono aa
theorem dV.nums {s:bk} (h:dV s.abs): (1≤(s.ap.s.l.length:Int)∧(s.ap.s.l.length:Int)≤1000)∧(2≤s.ap.cols∧s.ap.cols≤1000)∧(0≤s.y∧s.y<s.ap.s.l.length)∧(0≤s.x∧s.x≤s.ap.cols)∧(0≤s.top∧s.top≤s.cO∧s.cO<s.ap.s.l.length):=by
 have f: (bW s.ap.s.l).length=s.ap.s.l.length:=by simp[bW]
 obtain⟨⟨c,d,-,-,-⟩,a,e,b⟩:=h;simp only[bk.abs,bq.abs,bd.rows,bd.cols] at c d a e b
 rw[f] at d a b
 exact⟨aa,c,a,e,b⟩
theorem ky {s:bk} {w b:World} {X cs':List Chunk} {v v2:Value} {q:bZ} {Q:bd} (t:bk) (i:bq) (a:t.g=s.g∧t.ap.g=s.ap.g∧t.st.g=s.st.g) (c:dO t) (hi:i.g=t.ap.g∧cV i.r∧i.abs=q) (f:q.cols=t.ap.cols) (h: { t.abs with bC:=q } = Q) (j:v2=v)
 (k:af w (aB (aO s)) X b) (l:aA X [t.an,i.an,aT (b9 i.r),i.s.au,i.s.cc,i.be.au,t.st.aF] cs'):eg s v Q w (.returned v2) b:=by
 obtain⟨d,m,e⟩:=hi;refine aP.bP { t with ap:=i } ⟨a.1,d.trans a.2.1,a.2.2,⟨m,c.st,?_⟩,?_⟩ j ?_;have:i.cols=q.cols:=by rw[←e];rfl
 rw[c.n,←f,←this];rw[←h];simp only[bk.abs,e]
 have o:=k.aw l
 simpa only[aO,bk.an,eU,d] using o
theorem e6 {s:bk} {w b:World} {X cs':List Chunk} {v v2:Value} {q:bd} (t:bk) (a:t.g=s.g∧t.ap.g=s.ap.g∧t.st.g=s.st.g) (c:dO t) (d:t.abs=q) (e:v2=v)
 (f:af w (aB (aO s)) X b) (h:aA X (aO t) cs'):eg s v q w (.returned v2) b:=aP.bP t ⟨a.1,a.2.1,a.2.2,c,d⟩ e (f.aw h)
abbrev hk (s:bk):bk:={ s with x:=min s.x (s.ap.cols - 1) }
theorem nB (w:World) (s:bk) (p:bq) (e:s.ap=p) (a:s.an.pred w) (ai:s.ap.an.pred w):Calls prog 194 [ptr s.g].toArray w (Pure (.int .i64 (p.s.l.length:Int)) w):=by subst e;exact Q5 w s a ai
theorem jX (w:World) (s:bk) (p:bq) (e:s.ap=p) (a:s.an.pred w) (ai:s.ap.an.pred w):Calls prog 226 [ptr s.g].toArray w (Pure (.int .i64 p.cols) w):=by subst e;exact GP w s a ai
theorem GR {s:bk} (h:s.y=s.cO):iH s.abs=({ (hk s).abs with bC:=hK s.ap.abs s.top s.cO 1 (λq a b=>mD q a b s.bf.at_.an s.bf.at_.aM) },true):=by
 unfold iH;exact ax h
theorem lQ (s:bk):s.abs.bC.cF.length=s.ap.s.l.length:=by simp[bk.abs,bq.abs,bW]
theorem GS {s:bk} (h: ¬s.y=s.cO) (a:s.y<(s.ap.s.l.length:Int) - 1):iH s.abs=({ hk s with y:=s.y+1 }.abs,true):=by
 unfold iH;exact (ag h).trans (ax (by show s.y<(s.abs.bC.cF.length:Int) - 1;rw[lQ];exact a))
theorem GT {s:bk} (h: ¬s.y=s.cO) (a: ¬s.y<(s.ap.s.l.length:Int) - 1):iH s.abs=((hk s).abs,false):=by
 unfold iH;exact (ag h).trans (ag (by show ¬s.y<(s.abs.bC.cF.length:Int) - 1;rw[lQ];exact a))
theorem GU (w:World) (s:bk) (m:bb w (aO s)) (c:dO s) (i:dV s.abs) (o:s.ap.be.l.length≤1152921500000):
 Calls prog 214 [ptr s.g].toArray w (eg s (.bool (iH s.abs).2) (iH s.abs).1 w):=by
 obtain⟨v,p,x,z,j⟩:=i.nums;refine bI func214 ntmps214 m ?_;refine aJ ?_;refine ao rfl i7 rfl (λe d=>ji e s (d.has aQ) (d.has bF) p) ?_;refine aK ?_;refine bG [0,1,2,3,4,5,6,7,8,9] 0 [[]] ?_;refine bH ?_;refine aj (λf=>?_) (λf=>?_);refine bG [0,1,2,3,4,5,6,7,8,9,10,11,12] 2 [[(13,false,[]),(14,true,[])]] ?_;refine cE ?_;refine ao rfl k0 rfl (λe d=>lh e (hk s) (d.has aQ)) ?_;refine ah ?_;refine cI (λe d=>Gm e s.ap d c.r i.bC o s.top s.cO 1 s.bf.at_.an s.bf.at_.aM) (λi32 t=>?_);refine bw ?_;intro k h;exact ky (hk s) i32 ⟨rfl,rfl,rfl⟩ ⟨c.r,c.st,c.n⟩ t (xC s.ap.abs s.top s.cO (λq a b u j=>uP q u j s.bf.at_.an s.bf.at_.aM)).cols (by rw[GR f]) (by rw[GR f]) h ae;refine aq ?_;refine bG [0,1,2,3,4] 1 [[(5,false,[6,7,8])]] ?_;refine aC ?_;refine ao rfl nd rfl (λe d=>nB e (hk s) s.ap rfl (d.has aQ) (d.has bF)) ?_;refine aC ?_;refine aj (λaH=>?_) (λaH=>?_);refine eG ?_;intro k h;exact e6 { hk s with y:=s.y+1 } ⟨rfl,rfl,rfl⟩ ⟨c.r,c.st,c.n⟩ (by rw[GS f aa]) (by rw[GS f aa]) h ae;refine aJ ?_;intro k h;exact e6 (hk s) ⟨rfl,rfl,rfl⟩ ⟨c.r,c.st,c.n⟩ (by rw[GT f aa]) (by rw[GT f aa]) h ae
end Go.Proofs.YtkeokgcdnfjaaaaGreatDoor.Mq
