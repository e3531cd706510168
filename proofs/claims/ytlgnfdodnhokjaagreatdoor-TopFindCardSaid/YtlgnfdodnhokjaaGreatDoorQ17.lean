/- part 17 of the proof -/
import Derived.Test.YtlgnfdodnhokjaaGreatDoorQ16
import Derived.Shelf.Small.Bits
import Derived.Shelf.Spec.TrailingZeros
namespace Go.Proofs.YtlgnfdodnhokjaaGreatDoor.Mq.cN
open Go Go.RowKit Go.Proofs Tryz
def Hn:Shelf.Ren:=⟨λ| 29=>379 | n=>n,λ| 0=>0 | 3=>3 | 4=>4 | 5=>5 | 22=>54 | 25=>268 | 54=>427 | n=>n,λ| 1=>0 | n=>n⟩
theorem RL:Lays7.n29 prog Hn where
 mixed:=by kernel_rfl
 f29:=func379.trans (aU some ab)
 t0:=underlying0
 a0:=isAgg0
 z0:=sizeOf0
 v0:=zeroValue0
 i0:=by kernel_rfl
 t3:=underlying3
 a3:=isAgg3
 z3:=sizeOf3
 v3:=zeroValue3
 i3:=by kernel_rfl
 t4:=underlying4
 a4:=isAgg4
 z4:=sizeOf4
 v4:=zeroValue4
 i4:=by kernel_rfl
 t5:=underlying5
 a5:=isAgg5
 z5:=sizeOf5
 v5:=zeroValue5
 i5:=by kernel_rfl
 t22:=underlying54
 a22:=isAgg54
 z22:=sizeOf54
 v22:=zeroValue54
 i22:=by kernel_rfl
 t25:=underlying268
 a25:=isAgg268
 z25:=sizeOf268
 v25:=zeroValue268
 i25:=by kernel_rfl
 t54:=underlying427
 a54:=isAgg427
 z54:=sizeOf427
 g1:=by kernel_rfl
def RM:Shelf.Ren:=⟨λ| 129=>294 | 134=>380 | n=>n,λ| 3=>3 | 4=>4 | 5=>5 | 9=>9 | 46=>268 | 53=>54 | n=>n,λn=>n⟩
theorem RN:Lays.n134 prog RM where
 mixed:=by kernel_rfl
 f129:=func294.trans (aU some ab)
 f134:=func380.trans (aU some ab)
 t3:=underlying3
 a3:=isAgg3
 z3:=sizeOf3
 v3:=zeroValue3
 t4:=underlying4
 a4:=isAgg4
 z4:=sizeOf4
 v4:=zeroValue4
 t5:=underlying5
 a5:=isAgg5
 z5:=sizeOf5
 v5:=zeroValue5
 t9:=underlying9
 a9:=isAgg9
 z9:=sizeOf9
 v9:=zeroValue9
 t46:=underlying268
 a46:=isAgg268
 z46:=sizeOf268
 v46:=zeroValue268
 t53:=underlying54
 a53:=isAgg54
 z53:=sizeOf54
 v53:=zeroValue54
def iR:bA Nat:=⟨λw=>[.int .u64 (w:Int)],1,λ_=>rfl,λ_=>by repeat (first | exact aI.nil | refine aI.cons rfl ?_)⟩
structure fa where
 A:Option Addr
 m:Nat
 c:Nat
 ws:List Nat
abbrev xW (n:Nat) (i:fa):List Value:=[.slice i.A i.m i.c,.int .i64 (n:Int)]
def eH (g n:Nat) (i:fa):Chunk:=both (aD g (xW n i) 263) (own 54 1 (.slice i.A i.m i.c) i.m (iR.all i.ws))
structure hW (bs:List Bool) (i:fa):Prop where
 nQ:cU i.ws bs
 le:bs.length≤1000
 len:i.ws.length=i.m
 m16:i.m≤16
structure gG (w:World) (g n:Nat) (i:fa):Prop where
 c0:w.cell? ⟨g,0,none⟩=some (.slice i.A i.m i.c)
 c1:w.cell? ⟨g,1,none⟩=some (.int .i64 (n:Int))
 rd:Rd iR w (λ_=>True) i.A i.m i.c i.ws
theorem gG.of {w:World} {g n:Nat} {i:fa} (h: (eH g n i).pred w) (b:i.ws.length=i.m):gG w g n i:=by
 have a:w.heap[g]? = some (.cells (xW n i).toArray 263 (0,0)):=h.1
 obtain⟨A,c,d,e⟩:=Rd.gf (E:=iR) (l:=i.ws) h.2 b;injection d with f k j
 subst f j;exact⟨by rw[cell_of_row w g 0 _ _ _ a];rfl,by rw[cell_of_row w g 1 _ _ _ a];rfl,e.dC (λ_ _=>a1)⟩
theorem gG.ext {w w':World} {g n:Nat} {i:fa} (h:gG w g n i) (a:Ext [] w w'):gG w' g n i:=
 ⟨by rw[a.cell (World.block_lt_of_cell? _ _ h.c0) av];exact h.c0,by rw[a.cell (World.block_lt_of_cell? _ _ h.c1) av];exact h.c1,h.rd.ext a av⟩
abbrev ptr (g:Nat):Value:= .pointer (some ⟨g,0,none⟩)
theorem uZ (w:World) (n:Int):Calls prog 154 [.int .i64 n].toArray w (λe w'=>e= .returned (.bool (decide (2≤n∧n≤1000)))∧Ext [] w w'):=by
 refine aV func154 ntmps154 ?_;refine aQ ?_;refine aW 5 rfl (λh=>?_) (λh=>?_);have ai:=aX h
 refine aQ ?_;intro b a;exact⟨by simp[ai],a.ext⟩;have ai:=bd h
 refine aK ?_;intro b a;exact⟨by simp[ai],a.ext⟩
theorem Ho (w:World) (g n:Nat) (i:fa) (h:gG w g n i):Calls prog 357 [ptr g].toArray w (λe w'=>e= .returned (.int .i64 (n:Int))∧Ext [] w w'):=by
 refine aV func357 ntmps357 ?_;refine hq ?_;refine a_ bN rfl rfl (λw' a=>a.cu h.c1 av) ?_;refine ay ?_;intro c b;exact⟨rfl,b.ext⟩
theorem Hp (w:World) (g n:Nat) (i:fa) (h:gG w g n i) (x:Int):Calls prog 278 [ptr g,.int .i64 x].toArray w (λe w'=>e= .returned (.bool (decide (0≤x∧x<(n:Int))))∧Ext [] w w'):=by
 refine aV func278 ntmps278 ?_;refine aQ ?_;refine aW 7 rfl (λa=>?_) (λa=>?_);have b:=aX a
 refine ay ?_;refine ao rfl Fq rfl (λw' d=>Ho w' g n i (h.ext d.ext)) ?_;refine aK ?_;intro f c;exact⟨by simp[b],c.ext⟩;have b:=bd a
 refine aQ ?_;intro f c;exact⟨by simp[b],c.ext⟩
theorem RO (v y:Nat): (v:Int)/2 ^ min ((y:Int)%64).toNat IntKind.u64.bits=((v/2 ^ (y%64):Nat):Int):=by
 have e:min ((y:Int)%64).toNat IntKind.u64.bits=y%64:=by simp only[IntKind.bits];omega
 rw[e];simp
theorem xX {bs:List Bool} {i:fa} (h:hW bs i) {x:Nat} (b:x<bs.length): ∃v,i.ws[x/64]? = some v∧v<2 ^ 64∧x/64<i.m:=by
 have c:=h.nQ.ek
 have a:x/64<i.ws.length:=by omega
 exact⟨i.ws[x/64],bE a,h.nQ.lt _ (r9 a),by have:=h.len;omega⟩
theorem Hq (y:Nat):IntKind.u64.wrap (1*2 ^ min ((y:Int)%64).toNat IntKind.u64.bits)=((2 ^ (y%64):Nat):Int):=by
 have e:min ((y:Int)%64).toNat IntKind.u64.bits=y%64:=by simp only[IntKind.bits];omega
 have h:2 ^ (y%64)<2 ^ 64:=qS aZ (iH _ aZ)
 rw[e,Int.one_mul];have: ((2 :Int) ^ (y%64))=((2 ^ (y%64):Nat):Int):=by simp
 rw[this];generalize 2 ^ (y%64)=u at *
 simp[IntKind.wrap,IntKind.bits,IntKind.signed]
 omega
theorem Hr {v:Nat} (h:v<2 ^ 64):IntKind.u64.wrap (v:Int)=(v:Int):=by
 simp[IntKind.wrap,IntKind.bits,IntKind.signed];omega
theorem Hs (y:Nat):2 ^ (y%64)<2 ^ 64:=qS aZ (iH _ aZ)
theorem Ht {bs:List Bool} {x:Int} {a:Bool} (h: ¬(0≤x∧x<(bs.length:Int))):mT bs x a=bs:=ag h
theorem Hu {b w:World} {S:List Nat} {cs:List Chunk} {e a m c q v:Nat} {ws:List Nat} (h:af b S cs w) (d:Has cs (own e 1 (.slice (some ⟨a,0,none⟩) m c) m (iR.all ws))) (f:ws[q]? = some v):
 w.cell? ((⟨a,0,none⟩ :Addr).add (q*1))=some (.int .u64 (v:Int)):=by
 rw[Addr.add_lit,dE,Nat.mul_one];refine h.DW d ?_;have:=iR.lQ (j:=0) (u:= .int .u64 (v:Int)) f rfl
 simpa [iR] using this
abbrev eo (g n:Nat) (i:fa) (a:List Bool) (w:World):=la (λ_=>Value.tuple #[]) (eH g n i) (λj=>eH g n j) (λj=>hW a j) w
theorem Hv (w:World) (g:Nat) (bs:List Bool) (i:fa) (d:hW bs i) (h: (eH g bs.length i).pred w) (C: (eH g bs.length i).ch.Nodup) (x:Int) (J: -9223372036854775808≤x∧x≤9223372036854775807):
 Calls prog 197 [ptr g,.int .i64 x].toArray w (eo g bs.length i (mT bs x true) w):=by
 have K:=gG.of h d.len
 refine calls (n:=20) func197 rfl ntmps197 rfl ?_;refine cH (H':=af w (eH g bs.length i).ch [eH g bs.length i]) ?_ (Sub.refl _) (λx D=>af.qY D h C);refine aS ?_;refine ao rfl Ff rfl (λw' E=>Hp w' g _ i (gG.of (E.has Has.head) d.len) x) ?_;refine aq ?_;refine aj (λp=>?_) (λp=>?_);obtain⟨y,rfl⟩ : ∃y:Nat,x=(y:Int):=⟨x.toNat,aa⟩;have s:y<bs.length:=by omega
 obtain⟨v,k,t,b⟩:=xX d s;have u:=d.len
 obtain⟨A,m,c,ws⟩:=i;dsimp only at k b u
 refine xi bw.head ?_;refine hE (Has.tail Has.head) (λL c' F _ _ _ G=>?_);injection F with l M H
 subst l H;obtain⟨a,z⟩:=G (by show 0<m;omega);dsimp only at z
 subst z;have B:=iR.pF (j:=0) (a':=v ||| 2 ^ (y%64)) (v:= .int .u64 ((v ||| 2 ^ (y%64):Nat):Int)) k aZ rfl
 refine eF [0,1,2,3,4,5,6,7,8,9,10,11,12] 1 [[(13,true,[])]] (af w (eH g bs.length ⟨some ⟨a,0,none⟩,m,c,ws⟩).ch [aD g (xW bs.length ⟨some ⟨a,0,none⟩,m,c,ws⟩) 263,own 54 1 (.slice (some ⟨a,0,none⟩) m c) m (iR.all ws)]) mixed ab (λ_ e=>e.drew) (λ_ h=>dp) ?_;refine ay ?_;refine aL rfl (λf b=>(sp rfl rfl rfl aa aa aa aG)) ?_;refine aL rfl (λf b=>(bC (q:=y/64) q5 rfl rfl rfl bc aa aa aG)) ?_;refine aL rfl (λf b=>(a_ q1 rfl rfl (λN l=>by subst l;exact (Hu b (Has.tail Has.head) k)) aG)) ?_;refine ar ?_;refine aL rfl (λf b=>(nl rfl rfl rfl aa aa aG)) ?_;refine aL rfl (λf b=>(oN (r:=((2 ^ (y%64):Nat):Int)) rfl rfl rfl aa (Hq y) aG)) ?_;refine aL rfl (λf b=>(mN (r:=((v ||| 2 ^ (y%64):Nat):Int)) rfl rfl rfl (or_eq (m:=v) (n:=2 ^ (y%64)) rfl rfl t (Hs y) (Hr (Hm t (iH _ aZ)))) aG)) ?_;refine aL rfl (λf b=>(bC (q:=y/64) q5 rfl rfl rfl bc aa aa aG)) ?_;refine aq ?_;refine k4 (o:=y/64) q1 rfl rfl ew (by simp[Addr.add_lit]) rfl (by rw[iR.dI];show _<ws.length*1;omega) ?_;refine aS ?_;intro I e;rw[show y/64*iR.sz+0=y/64 by simp[iR]] at B
 dsimp only at e
 rw[B] at e
 refine la.of (⟨some ⟨a,0,none⟩,m,c,ws.set (y/64) (v ||| 2 ^ (y%64))⟩ :fa) ⟨d.nQ.set k s,by rw[mU];exact d.le,by simpa using u,d.m16⟩ (e.both bw.head bw.head);refine aq ?_;intro I e;rw[Ht p];exact la.of i d e
theorem Hw (w:World) (g:Nat) (bs:List Bool) (i:fa) (d:hW bs i) (h: (eH g bs.length i).pred w) (C: (eH g bs.length i).ch.Nodup) (x:Int) (J: -9223372036854775808≤x∧x≤9223372036854775807):
 Calls prog 196 [ptr g,.int .i64 x].toArray w (eo g bs.length i (mT bs x false) w):=by
 have K:=gG.of h d.len
 refine calls (n:=20) func196 rfl ntmps196 rfl ?_;refine cH (H':=af w (eH g bs.length i).ch [eH g bs.length i]) ?_ (Sub.refl _) (λx D=>af.qY D h C);refine aS ?_;refine ao rfl Ff rfl (λw' E=>Hp w' g _ i (gG.of (E.has Has.head) d.len) x) ?_;refine aq ?_;refine aj (λp=>?_) (λp=>?_);obtain⟨y,rfl⟩ : ∃y:Nat,x=(y:Int):=⟨x.toNat,aa⟩;have s:y<bs.length:=by omega
 obtain⟨v,k,t,b⟩:=xX d s;have u:=d.len
 obtain⟨A,m,c,ws⟩:=i;dsimp only at k b u
 refine xi bw.head ?_;refine hE (Has.tail Has.head) (λL c' F _ _ _ G=>?_);injection F with l M H
 subst l H;obtain⟨a,z⟩:=G (by show 0<m;omega);dsimp only at z
 subst z;have B:=iR.pF (j:=0) (a':=v &&& (18446744073709551615 - 2 ^ (y%64))) (v:= .int .u64 ((v &&& (18446744073709551615 - 2 ^ (y%64)):Nat):Int)) k aZ rfl
 refine eF [0,1,2,3,4,5,6,7,8,9,10,11,12] 1 [[(13,true,[])]] (af w (eH g bs.length ⟨some ⟨a,0,none⟩,m,c,ws⟩).ch [aD g (xW bs.length ⟨some ⟨a,0,none⟩,m,c,ws⟩) 263,own 54 1 (.slice (some ⟨a,0,none⟩) m c) m (iR.all ws)]) mixed ab (λ_ e=>e.drew) (λ_ h=>dp) ?_;refine ay ?_;refine aL rfl (λf b=>(sp rfl rfl rfl aa aa aa aG)) ?_;refine aL rfl (λf b=>(bC (q:=y/64) q5 rfl rfl rfl bc aa aa aG)) ?_;refine aL rfl (λf b=>(a_ q1 rfl rfl (λN l=>by subst l;exact (Hu b (Has.tail Has.head) k)) aG)) ?_;refine ar ?_;refine aL rfl (λf b=>(nl rfl rfl rfl aa aa aG)) ?_;refine aL rfl (λf b=>(oN (r:=((2 ^ (y%64):Nat):Int)) rfl rfl rfl aa (Hq y) aG)) ?_;refine aL rfl (λf b=>(uT (r:=((v &&& (18446744073709551615 - 2 ^ (y%64)):Nat):Int)) rfl rfl rfl (FS (m:=v) (n:=2 ^ (y%64)) rfl rfl t (Hs y) (Hr (qP Nat.and_le_left t))) aG)) ?_;refine aL rfl (λf b=>(bC (q:=y/64) q5 rfl rfl rfl bc aa aa aG)) ?_;refine aq ?_;refine k4 (o:=y/64) q1 rfl rfl ew (by simp[Addr.add_lit]) rfl (by rw[iR.dI];show _<ws.length*1;omega) ?_;refine aS ?_;intro I e;rw[show y/64*iR.sz+0=y/64 by simp[iR]] at B
 dsimp only at e
 rw[B] at e
 refine la.of (⟨some ⟨a,0,none⟩,m,c,ws.set (y/64) (v &&& (18446744073709551615 - 2 ^ (y%64)))⟩ :fa) ⟨d.nQ.RG k s,by rw[mU];exact d.le,by simpa using u,d.m16⟩ (e.both bw.head bw.head);refine aq ?_;intro I e;rw[Ht p];exact la.of i d e
theorem Hx: ∀m:Nat,iR.all (List.replicate m 0)=List.replicate m (Value.int .u64 0)
 | 0=>rfl
 | m+1=>by rw[mD,mD,←Hx m];rfl
theorem AX (w:World) (g:Nat) (bs:List Bool) (i:fa) (b:hW bs i) (h: (eH g bs.length i).pred w) (f: (eH g bs.length i).ch.Nodup) (ai:0<bs.length):
 Calls prog 256 [ptr g].toArray w (eo g bs.length i (List.replicate bs.length false) w):=by
 refine calls (n:=8) func256 rfl ntmps256 rfl ?_;refine cH (H':=af w (eH g bs.length i).ch [eH g bs.length i]) ?_ (Sub.refl _) (λx j=>af.qY j h f);refine aC ?_;have k:=b.nQ.ek
 have l:=b.len
 obtain⟨A,m,c,ws⟩:=i;dsimp only at k l
 refine xi bw.head ?_;refine hE (Has.tail Has.head) (λt c' o _ _ _ p=>?_);injection o with q u r
 subst q r;obtain⟨a,d⟩:=p (by show 0<m;omega);dsimp only at d
 subst d;have s:=Hx m
 refine ay ?_;refine PL underlying261 zeroValue54 rfl rfl (show 0<m by omega) rfl ew ?_;refine aq ?_;intro v e;rw[←s] at e
 exact la.of (⟨some ⟨a,0,none⟩,m,c,List.replicate m 0⟩ :fa) ⟨cU.ff m bs.length aa,by simpa using b.le,by simp,b.m16⟩ (e.both bw.head bw.head)
def mV (w:World):Prop:=TabAt (Hn.g 1) Lib.deBruijn64tab w
theorem mV.ext {w w':World} (h:mV w) (b:Ext [] w w'):mV w':=λj a=>by
 rw[b.cell (World.block_lt_of_cell? _ _ (h j a)) av];exact h j a
theorem RP (w:World) (a:mV w) (v:Nat) (b:v<2 ^ 64):Calls prog 379 [.int .u64 (v:Int)].toArray w (λe w'=>e= .returned (.int .i64 (Lib.ctz 64 v:Int))∧Ext [] w w'):=
 (Any7.bits_TrailingZeros64 RL v b w (λ_=>a)).mono λ_ _ ⟨c,d⟩=>⟨c,d▸Ext.refl _ _⟩
theorem RQ (w:World) (v:Nat) (c:v<2 ^ 64):Calls prog 380 [.int .u64 (v:Int)].toArray w (λe w'=>e= .returned (.int .i64 (64 - (Lib.bitLen v:Int)))∧Ext [] w w'):=
 (Any.bits_LeadingZeros64 RN (v:Int) w aa aa).mono λ_ _ ⟨a,b⟩=>⟨by rw[a,fV],b▸Ext.refl _ _⟩
theorem RR (w:World) (o:mV w) (g:Nat) (bs:List Bool) (i:fa) (d:hW bs i) (h:gG w g bs.length i) (x:Nat) (J:x<bs.length):
 Calls prog 311 [ptr g,.int .i64 (x:Int)].toArray w (λe w'=>e= .returned (.int .i64 (jp bs x:Int))∧Ext [] w w'):=by
 have K:=d.le
 refine aV func311 ntmps311 ?_;refine b7 ?_;refine b2 (ι:=Nat) (λy=>[(0,ptr g),(1,.int .i64 (y:Int))]) (λ_=>af w [] []) (λy=>x<y∧y≤1100∧ ∀z,x<z→z<y→cd bs z=false) (λy=>1100 - y) ?_ ?_;exact λw b=>⟨x+1,⟨aa,aa,by intro z c f;omega⟩,(iK rfl rfl),b⟩
 rintro y ⟨p,L,j⟩;refine aC ?_;refine a_ bN rfl rfl (λw' a=>a.cu h.c1 av) ?_;refine ah ?_;refine aj (λs=>?_) (λs=>?_);have t:y<bs.length:=by omega
 obtain⟨v,k,A,n⟩:=xX d t;obtain⟨bY,B,_,C⟩:=h.rd.at_ k;have D:v/2 ^ (y%64)<2 ^ 64:=qP (Nat.div_le_self _ _) A
 refine aJ ?_;refine a_ Ei rfl rfl (λw' a=>a.cu h.c0 av) ?_;refine ar ?_;refine sp rfl rfl rfl aa aa aa ?_;refine bC (q:=y/64) q5 rfl rfl rfl B aa aa ?_;refine a_ q1 rfl rfl (λw' a=>a.cu (C 0 _ rfl) av) ?_;refine ar ?_;refine nl rfl rfl rfl aa aa ?_;refine pY (r:=((v/2 ^ (y%64):Nat):Int)) rfl rfl rfl aa (RO v y) ?_;refine aJ ?_;generalize l:v/2 ^ (y%64)=u at *
 refine aj (λE=>?_) (λE=>?_);have m:v/2 ^ (y%64)≠0:=by rw[l];omega
 obtain⟨c,f,F⟩:=d.nQ.RH k p j m;rw[l] at c f F
 refine ar ?_;refine eF [0,1,4,5,6,7,8] 1 [[(2,false,[3,9,10])]] (af w [] []) mixed ab (λ_ b=>b.drew) (λ_ h=>dp) ?_;refine ay ?_;refine aL rfl (λM n=>(a_ bN rfl rfl (λN G=>by subst G;exact (n.cu h.c1 av)) aG)) ?_;refine ah ?_;refine ao rfl Pg rfl (λw' a=>RP w' (o.ext a.ext) u D) ?_;refine b3 (λ_=>True) (λ_ h=> .inr dp) (λ_ h=>a1) ?_;refine bH ?_;intro H b;refine⟨?_,b.ext⟩;rw[c];congr 2
 omega
 have m:v/2 ^ (y%64)=0:=by rw[l];omega
 have I:=d.nQ.RI k j m
 refine ay ?_;refine sp rfl rfl rfl aa aa aa ?_;refine ar ?_;refine k3 rfl rfl rfl (wrap64 aa aa) ?_;refine aq ?_;refine bi ((y/64+1)*64) ⟨aa,aa,I⟩ aa (iK rfl rfl) (λw' a=>a);refine aQ ?_;refine a_ bN rfl rfl (λw' a=>a.cu h.c1 av) ?_;refine al ?_;intro H b;refine⟨?_,b.ext⟩;rw[Hi (λz c f=>j z c aa)];congr 2
 omega
theorem RS (v y:Nat):IntKind.u64.wrap ((v:Int)*2 ^ min (63 - (y:Int)%64).toNat IntKind.u64.bits)=((v*2 ^ (63 - y%64)%2 ^ 64 :Nat):Int):=by
 have e:min (63 - (y:Int)%64).toNat IntKind.u64.bits=63 - y%64:=by simp only[IntKind.bits];omega
 rw[e];have: ((v:Int)*2 ^ (63 - y%64))=((v*2 ^ (63 - y%64):Nat):Int):=by simp
 rw[this];generalize v*2 ^ (63 - y%64)=u
 simp[IntKind.wrap,IntKind.bits,IntKind.signed]
theorem RT (w:World) (g:Nat) (bs:List Bool) (i:fa) (c:hW bs i) (h:gG w g bs.length i) (x:Nat) (F:x<bs.length):
 Calls prog 313 [ptr g,.int .i64 (x:Int)].toArray w (λe w'=>e= .returned (.int .i64 (iQ bs x:Int))∧Ext [] w w'):=by
 have G:=c.le
 refine aV func313 ntmps313 ?_;refine b7 ?_;refine b2 (ι:=Nat) (λy=>[(0,ptr g),(1,.int .i64 ((y:Int) - 1))]) (λ_=>af w [] []) (λy=>y≤x∧ ∀z,y≤z→z<x→cd bs z=false) (λy=>y) ?_ ?_;exact λw b=>⟨x,⟨bW _,by intro z f d;omega⟩,(iK rfl rfl),b⟩
 rintro j ⟨H,l⟩;refine aC ?_;refine aj (λo=>?_) (λo=>?_);obtain⟨y,rfl⟩ : ∃y,j=y+1:=⟨j - 1,aa⟩;rw[show ((y+1 :Nat):Int) - 1=(y:Int) by omega];have p:y<bs.length:=by omega
 obtain⟨v,k,I,J⟩:=xX c p;obtain⟨bY,s,_,t⟩:=h.rd.at_ k;have m:v*2 ^ (63 - y%64)%2 ^ 64<2 ^ 64:=iH _ aZ
 refine aJ ?_;refine a_ Ei rfl rfl (λw' a=>a.cu h.c0 av) ?_;refine ar ?_;refine sp rfl rfl rfl aa aa aa ?_;refine bC (q:=y/64) q5 rfl rfl rfl s aa aa ?_;refine a_ q1 rfl rfl (λw' a=>a.cu (t 0 _ rfl) av) ?_;refine ar ?_;refine nl rfl rfl rfl aa aa ?_;refine ar ?_;refine oN (r:=((v*2 ^ (63 - y%64)%2 ^ 64 :Nat):Int)) rfl rfl rfl aa (RS v y) ?_;refine aJ ?_;have n: ∀z,y<z→z<x→cd bs z=false:=λz f d=>l z aa d
 have A:=c.nQ.RJ k (show y<x by omega) n
 have B:=c.nQ.RK k n
 generalize K:v*2 ^ (63 - y%64)%2 ^ 64=u at *
 refine aj (λC=>?_) (λC=>?_);have f:=A aa
 have L:=Lib.bitLen_le u 64 aZ m
 refine aS ?_;refine ao rfl Ph rfl (λw' a=>RQ w' u m) ?_;refine bp ?_;intro D b;refine⟨?_,b.ext⟩;rw[f];have E:=B aa
 refine ay ?_;refine sp rfl rfl rfl aa aa aa ?_;refine k3 rfl rfl rfl (wrap64 aa aa) ?_;refine ah ?_;refine bi (64*(y/64)) ⟨aa,E⟩ aa (Sub.cons bc (Sub.cons ?_ Sub.nil)) (λw' a=>a);show some _=some _
 congr 2
 omega
 obtain rfl:j=0:=by omega
 refine bx ?_;intro D b;refine⟨?_,b.ext⟩;rw[RE (λz d=>l z (bP _) d)];rfl
theorem Hy (w:World) (g n:Nat) (i:fa) (h:gG w g n i) (v:0<n∧n≤1000) (c:FuncId) (o:ad prog c) (cap:List Value) (F:Nat→Nat) (p: ∀x,x<n→F x<n)
 (q: ∀w',Ext [] w w'→ ∀x,x<n→Calls prog c ([]++[Value.int .i64 (x:Int)]++cap).toArray w' (λe r=>e= .returned (.int .i64 (F x:Int))∧Ext [] w' r)) (x k:Int):
 Calls prog 309 [ptr g,.int .i64 x,.int .i64 k,.func (.func c) ([]:List Value).toArray cap.toArray].toArray w (λe w'=>e= .returned (.int .i64 (nP F n x k:Int))∧Ext [] w w'):=by
 obtain⟨N,f⟩ : ∃N:Nat,min (max 0 k) (n:Int)=(N:Int):=⟨(min (max 0 k) (n:Int)).toNat,aa⟩;obtain⟨b,l⟩ : ∃b:Nat,max 0 (min x ((n:Int) - 1))=(b:Int):=⟨(max 0 (min x ((n:Int) - 1))).toNat,aa⟩;have m:nP F n x k=iter F N b:=by
  unfold nP xT;rw[f,l,fV,fV]
 have s:b<n:=by omega
 rw[m];clear m;refine aV func309 ntmps309 ?_;refine hr ?_;refine a_ bN rfl rfl (λw' a=>a.cu h.c1 av) ?_;refine b7 ?_;refine a_ bN rfl rfl (λw' a=>a.cu h.c1 av) ?_;refine ay ?_;rw[f,l];refine b2 (ι:=Nat) (λj=>[(1,.int .i64 (iter F j b:Int)),(3,.func (.func c) ([]:List Value).toArray cap.toArray),(25,.int .i64 (N:Int)),(26,.int .i64 (j:Int))]) (λ_=>af w [] []) (λj=>j≤N) (λj=>N - j) ?_ ?_;exact λw d=>⟨0,bP _,(cj rfl rfl rfl rfl),d⟩
 intro j y;have t:=vk p j b s
 refine al ?_;refine aj (λu=>?_) (λu=>?_);refine aC ?_;refine gU (first:=[]) rfl rfl o rfl (λw' a=>q w' a.ext _ t) ?_;refine aK ?_;exact bi (j+1) aa aa bR (λw' a=>a);obtain rfl:j=N:=by omega
 refine bH ?_;intro z d;exact⟨rfl,d.ext⟩
theorem RU (w:World) (c:mV w) (a g:Nat) (bs:List Bool) (i:fa) (d:hW bs i) (h:gG w g bs.length i) (f:w.cell? ⟨a,0,none⟩=some (ptr g)) (x:Nat) (j:x<bs.length):
 Calls prog 310 [.int .i64 (x:Int),ptr a].toArray w (λe w'=>e= .returned (.int .i64 (jp bs x:Int))∧Ext [] w w'):=by
 refine aV func310 ntmps310 ?_;refine aC ?_;refine a_ zC rfl rfl (λw' b=>b.cu f av) ?_;refine ar ?_;refine ao rfl OJ rfl (λw' b=>RR w' (c.ext b.ext) g bs i d (h.ext b.ext) x j) ?_;refine ay ?_;intro l k;exact⟨rfl,k.ext⟩
theorem RV (w:World) (a g:Nat) (bs:List Bool) (i:fa) (c:hW bs i) (h:gG w g bs.length i) (d:w.cell? ⟨a,0,none⟩=some (ptr g)) (x:Nat) (f:x<bs.length):
 Calls prog 312 [.int .i64 (x:Int),ptr a].toArray w (λe w'=>e= .returned (.int .i64 (iQ bs x:Int))∧Ext [] w w'):=by
 refine aV func312 ntmps312 ?_;refine aC ?_;refine a_ zC rfl rfl (λw' b=>b.cu d av) ?_;refine ar ?_;refine ao rfl OL rfl (λw' b=>RT w' g bs i c (h.ext b.ext) x f) ?_;refine ay ?_;intro k j;exact⟨rfl,j.ext⟩
theorem Hz {w:World} {b:World} {S:List Nat} {cs:List Chunk} {a t:Nat} {v:Value} (h:af b S cs w) (c:Has cs (aD a [v] t)):w.cell? ⟨a,0,none⟩=some v:=h.eP c rfl
theorem RW (w:World) (j:mV w) (g:Nat) (bs:List Bool) (i:fa) (d:hW bs i) (h:gG w g bs.length i) (ai:0<bs.length) (x k:Int):
 Calls prog 217 [ptr g,.int .i64 x,.int .i64 k].toArray w (λe w'=>e= .returned (.int .i64 (nP (jp bs) bs.length x k:Int))∧Ext [] w w'):=by
 refine aV func217 ntmps217 ?_;refine ah ?_;intro b n o;refine aK ?_;refine wN (us:=[]) (vs:=[ptr b]) rfl rfl rfl ?_;refine ao rfl Fi rfl (λw' a=>Hy w' g _ i (h.ext a.ext) ⟨ai,d.le⟩ _ OI [ptr b] (jp bs) (λy f=>Hj y ai) (λl c y f=>RU l ((j.ext a.ext).ext c) b g bs i d ((h.ext a.ext).ext c) (Hz (a.keep c) Has.head) y f) x k) ?_;refine ay ?_;intro p m;exact⟨rfl,m.ext⟩
theorem u4 (w:World) (g:Nat) (bs:List Bool) (i:fa) (c:hW bs i) (h:gG w g bs.length i) (ai:0<bs.length) (x k:Int):
 Calls prog 218 [ptr g,.int .i64 x,.int .i64 k].toArray w (λe w'=>e= .returned (.int .i64 (nP (iQ bs) bs.length x k:Int))∧Ext [] w w'):=by
 refine aV func218 ntmps218 ?_;refine ah ?_;intro a m n;refine aK ?_;refine wN (us:=[]) (vs:=[ptr a]) rfl rfl rfl ?_;refine ao rfl Fi rfl (λw' b=>Hy w' g _ i (h.ext b.ext) ⟨ai,c.le⟩ _ OK [ptr a] (iQ bs) (λy d=>by have:=Bi bs y;omega) (λj f y d=>RV j a g bs i c ((h.ext b.ext).ext f) (Hz (b.keep f) Has.head) y d) x k) ?_;refine ay ?_;intro o l;exact⟨rfl,l.ext⟩
def lm (bs:List Bool) (n x:Nat):List Bool:=(List.range bs.length).map (λy=>if n≤y∧y<x then false else cd bs y)
theorem o3 (bs:List Bool) (n x:Nat): (lm bs n x).length=bs.length:=by simp[lm]
theorem vl (bs:List Bool) (n x y:Nat) (a:y<bs.length):cd (lm bs n x) y=if n≤y∧y<x then false else cd bs y:=by
 unfold lm;rw[cd,fI,eD,r7 a];rfl
theorem RX (bs:List Bool) (n:Nat):lm bs n n=bs:=by
 refine ta (o3 _ _ _) λy a=>?_
 rw[o3] at a
 rw[vl _ _ _ _ a,ag aa]
theorem RY {bs:List Bool} {n x:Nat} (c:n≤x) (d:x<bs.length):mT (lm bs n x) (x:Int) false=lm bs n (x+1):=by
 refine ta (by rw[mU,o3,o3]) λy a=>?_
 rw[mU,o3] at a
 rw[xU _ _ _ _ (by rw[o3];exact a),vl _ _ _ _ a,vl _ _ _ _ a];by_cases e:x=y
 subst e;rw[aw rfl,aw aa]
 rw[ag aa];by_cases b:n≤y∧y<x
 rw[aw b,aw aa];rw[ag b,ag aa]
def ln (bs:List Bool) (n x:Nat):List Bool:=(List.range n).map (λy=>if y<bs.length then cd bs y else decide (y<x) && decide (y%8=0))
theorem mW (bs:List Bool) (n x:Nat): (ln bs n x).length=n:=by simp[ln]
theorem tb (bs:List Bool) (n x y:Nat) (a:y<n):cd (ln bs n x) y=if y<bs.length then cd bs y else decide (y<x) && decide (y%8=0):=by
 unfold ln;rw[cd,fI,eD,r7 a];rfl
theorem RZ {bs:List Bool} {n x:Nat} (c:bs.length≤x) (d:x<n):ln bs n (x+1)=if x%8=0 then mT (ln bs n x) (x:Int) true else ln bs n x:=by
 split
 rename_i b;refine ta (by rw[mU,mW,mW]) λy a=>?_
 rw[mW] at a
 rw[xU _ _ _ _ (by rw[mW];exact a),tb _ _ _ _ a,tb _ _ _ _ a];by_cases e:x=y
 subst e;rw[aw rfl,ag aa];simp[b]
 rw[ag (show ¬(x:Int)=(y:Int) by omega),show decide (y<x+1)=decide (y<x) from gQ.2 aa];rename_i b;refine ta (by rw[mW,mW]) λy a=>?_
 rw[mW] at a
 rw[tb _ _ _ _ a,tb _ _ _ _ a];by_cases e:x=y
 subst e;rw[ag aa,ag aa];simp[b]
 rw[show decide (y<x+1)=decide (y<x) from gQ.2 aa]
theorem R0 {bs:List Bool} {n x:Nat} (b:n≤x):ln bs n x=jo bs n:=by
 refine ta (by rw[mW,qg]) λy a=>?_
 rw[mW] at a
 rw[tb _ _ _ _ a,RB _ _ _ a,show decide (y<x)=true from bX aa];simp
theorem R1 {ws:List Nat} {bs:List Bool} {n x:Nat} (h:cU ws (lm bs n x)) (g:bs.length≤x) (d:n≤64*ws.length):cU ws (ln bs n bs.length):=by
 have f:=h.cut n d (λy b=>by
  rcases ej y bs.length with a | a
  rw[vl _ _ _ _ a,aw aa];exact qf (by rw[o3];exact a))
 have e: (List.range n).map (cd (lm bs n x))=ln bs n bs.length:=by
  refine ta (by simp[ln]) λy b=>?_
  have c:y<n:=by simpa using b
  rw[tb _ _ _ _ c,cd,fI,eD,r7 c];show cd (lm bs n x) y=_
  rcases ej y bs.length with a | a
  rw[vl _ _ _ _ a,ag aa,aw a];rw[qf (by rw[o3];exact a),ag aa,cg aa];rfl
 exact e▸f
theorem p5 (w:World) (g:Nat) (bs:List Bool) (i:fa) (p:hW bs i) (h: (eH g bs.length i).pred w) (C: (eH g bs.length i).ch.Nodup) (n:Nat) (N:2≤n∧n≤1000):
 Calls prog 136 [ptr g,.int .i64 (n:Int)].toArray w (la (λ_=>Value.int .i64 0) (eH g bs.length i) (λj=>eH g n j) (λj=>hW (jo bs n) j) w):=by
 have O:=p.le
 have P:=gG.of h p.len
 refine calls (n:=61) func136 rfl ntmps136 rfl ?_;refine cH (H':=af w (eH g bs.length i).ch [eH g bs.length i]) ?_ (Sub.refl _) (λx D=>af.qY D h C);refine b7 ?_;refine ao rfl EP rfl (λw' d=>uZ w' n) ?_;refine ay ?_;refine fA rfl ((by rw[bX (show 2≤(n:Int)∧(n:Int)≤1000 by omega)];rfl)) ?_;refine aC ?_;refine a_ bN rfl rfl (λw' d=>(gG.of (d.has Has.head) p.len).c1) ?_;refine bp ?_;refine b2 (ι:=Nat × fa) (λs=>[(0,ptr g),(1,.int .i64 (n:Int)),(5,.int .i64 (bs.length:Int)),(6,.int .i64 (s.1 :Int))]) (λs=>af w (eH g bs.length i).ch [eH g bs.length s.2]) (λs=>n≤s.1∧s.1≤1000+n∧hW (lm bs n s.1) s.2) (λs=>1000+n - s.1) ?_ ?_;exact λw f=>⟨(n,i),⟨bW _,by dsimp only;omega,by rw[RX];exact p⟩,(cj rfl rfl rfl rfl),f⟩
 rintro⟨x,j⟩ ⟨k,r,e⟩;dsimp only at k r e ⊢
 refine aK ?_;refine aj (λE=>?_) (λE=>?_);have l:=λw' a b=>Hw w' g (lm bs n x) j e a b (x:Int) aa
 rw[o3,RY k aa] at l
 refine aC ?_;refine Ax (λj=>[eH g bs.length j]) rfl EZ rfl (λ_=>bn.head) (λw' d=>l w' (d.has Has.head) (by simpa [aB] using d.nodup)) (λt u=>?_);refine aK ?_;exact bi (x+1,t) ⟨by dsimp only;omega,by dsimp only;omega,u⟩ bm bR (λw' d=>d);refine aC ?_;obtain⟨A,m,c,ws⟩:=j;have B:=e.len
 have o:=e.m16
 dsimp only at B o
 refine xi bw.head ?_;refine b2 (ι:=Value × Nat × List Nat) (λs=>[(0,ptr g),(1,.int .i64 (n:Int)),(5,.int .i64 (bs.length:Int))]) (λs=>af w (eH g bs.length i).ch [aD g [s.1,.int .i64 (bs.length:Int)] 263,own 54 1 s.1 s.2.1 (iR.all s.2.2)]) (λs=>s.2.2.length=s.2.1∧s.2.1≤16∧cU s.2.2 (lm bs n x)) (λs=>17 - s.2.1) ?_ ?_;exact λw f=>⟨(.slice A m c,m,ws),⟨B,o,e.nQ⟩,(em rfl rfl rfl),f⟩
 rintro⟨v,m,ws⟩ ⟨y,o,z⟩;dsimp only at y o z ⊢
 refine hE (Has.tail Has.head) (λA c F Q R _ S=>?_);subst F;refine aK ?_;refine k3 rfl rfl rfl (wrap64 aa aa) ?_;refine aS ?_;refine aj (λG=>?_) (λG=>?_);refine aQ ?_;intro T U V;refine gx q5 rfl rfl rfl bj (λ_=>by exact ew) rfl (io rfl) (by simp only[maxLen];omega) aa (λW X=>?_);refine aq ?_;refine jd (Has.tail Has.head) (λH I J _ _ _ _=>?_);subst J;refine ah ?_;refine bi (.slice H (m+1) I,m+1,ws++[0]) ⟨by simp[y],by dsimp only;omega,z.hK⟩ bm (em rfl rfl rfl) (λw' d=>?_);dsimp only;rw[bA.hn];exact d;have K:=R1 z aa aa
 refine kA ?_;refine cH (H':=af w (eH g bs.length i).ch [eH g n ⟨A,m,c,ws⟩]) ?_ (Sub.refl _) (λw' d=>d.both bw.head bw.head);refine b2 (ι:=Nat × fa) (λs=>[(0,ptr g),(1,.int .i64 (n:Int)),(7,.int .i64 (s.1 :Int))]) (λs=>af w (eH g bs.length i).ch [eH g n s.2]) (λs=>bs.length≤s.1∧s.1≤1000+bs.length∧hW (ln bs n s.1) s.2) (λs=>1000+bs.length - s.1) ?_ ?_;exact λw f=>⟨(bs.length,⟨A,m,c,ws⟩),⟨bW _,by dsimp only;omega,⟨K,by rw[mW];omega,y,o⟩⟩,(em rfl rfl rfl),f⟩
 rintro⟨x,j⟩ ⟨k,r,e⟩;dsimp only at k r e ⊢
 refine aK ?_;refine aj (λL=>?_) (λL=>?_);have q:=RZ (bs:=bs) k (show x<n by omega)
 refine aC ?_;refine nl rfl rfl rfl aa aa ?_;refine ah ?_;refine aj (λM=>?_) (λM=>?_);rw[aw aa] at q
 have l:=λw' a b=>Hv w' g (ln bs n x) j e a b (x:Int) aa
 rw[mW] at l
 refine ah ?_;refine Ax (λj=>[eH g n j]) rfl z8 rfl (λ_=>bn.head) (λw' d=>l w' (d.has Has.head) (by simpa [aB] using d.nodup)) (λt u=>?_);refine aK ?_;exact bi (x+1,t) ⟨by dsimp only;omega,by dsimp only;omega,by dsimp only;rw[q];exact u⟩ bm bR (λw' d=>d);rw[ag aa] at q
 refine aK ?_;exact bi (x+1,j) ⟨by dsimp only;omega,by dsimp only;omega,by dsimp only;rw[q];exact e⟩ bm bR (λw' d=>d);refine bx ?_;intro Y f;rw[R0 aa] at e
 exact la.of j e f
theorem R2:hW [] ⟨none,0,0,[]⟩:=⟨⟨by simp,by simp,λx=>by simp[l5,cd]⟩,by simp,rfl,by simp⟩
theorem vm (w:World) (n:Nat) (c:2≤n∧n≤1000):
 Calls prog 109 [.int .i64 (n:Int)].toArray w (fi (λs:Nat × fa=>Value.tuple #[ptr s.1,.int .i64 0]) (λs=>eH s.1 n s.2) (λs=>hW (jo [] n) s.2) w):=by
 refine aV func109 ntmps109 ?_;refine aQ ?_;refine ao rfl EP rfl (λw' a=>uZ w' n) ?_;refine ah ?_;refine fA rfl ((by rw[bX (show 2≤(n:Int)∧(n:Int)≤1000 by omega)];rfl)) ?_;refine al ?_;intro b f g;refine aC ?_;refine gR (H':=af w [] [eH b 0 ⟨none,0,0,[]⟩]) ?_ (Sub.refl _) (λw' a=>(a.zo 54 1).both (bw.tail bw.head) bw.head);refine Ax (λj=>[eH b n j]) rfl w1 rfl (λ_=>bn.head) (λw' a=>p5 w' b [] _ R2 (a.has Has.head) (by simpa [aB] using a.nodup) n c) (λj d=>?_);refine bp ?_;intro h e;exact fi.of (b,j) d e
end Go.Proofs.YtlgnfdodnhokjaaGreatDoor.Mq.cN
namespace Go.Proofs.YtlgnfdodnhokjaaGreatDoor.Mq
open Go Go.RowKit Go.Proofs Tryz
structure fZ where
 fC:Int
 s1:Int
 s2:Int
 lp:Int
 use:Int
 j7:Int
abbrev fZ.enc (c:fZ):List Value:=[.int .i64 c.fC,.int .i64 c.s1,.int .i64 c.s2,.int .i64 c.lp,.int .i64 c.use,.int .i64 c.j7]
structure gH where
 at_:hO
 aF:fZ
 put:Bool
 wrap:Bool
 home:Bool
abbrev gH.enc (p:gH):List Value:=[.int .i64 p.at_.di,.int .i64 p.at_.fn,.int .i64 p.at_.an,.int .i64 p.at_.aM,.int .i64 p.at_.fl,.int .i64 p.aF.fC,.int .i64 p.aF.s1,.int .i64 p.aF.s2,.int .i64 p.aF.lp,.int .i64 p.aF.use,.int .i64 p.aF.j7,.bool p.put,.bool p.wrap,.bool p.home]
structure tc where
 g:Nat
 bs:List Bool
 i:cN.fa
abbrev tc.aF (s:tc):Chunk:=cN.eH s.g s.bs.length s.i
structure bl where
 g:Nat
 bg:gH
 ap:bq
 st:tc
 y:Int
 x:Int
 top:Int
 cR:Int
 f_:gH
 kG:Int
 kH:Int
 has:Bool
 last:Int
abbrev eZ (s:bl):List Value:=[.int .i64 s.bg.at_.di,.int .i64 s.bg.at_.fn,.int .i64 s.bg.at_.an,.int .i64 s.bg.at_.aM,.int .i64 s.bg.at_.fl,.int .i64 s.bg.aF.fC,.int .i64 s.bg.aF.s1,.int .i64 s.bg.aF.s2,.int .i64 s.bg.aF.lp,.int .i64 s.bg.aF.use,.int .i64 s.bg.aF.j7,.bool s.bg.put,.bool s.bg.wrap,.bool s.bg.home,
 ptr s.ap.g,ptr s.st.g,.int .i64 s.y,.int .i64 s.x,.int .i64 s.top,.int .i64 s.cR,
 .int .i64 s.f_.at_.di,.int .i64 s.f_.at_.fn,.int .i64 s.f_.at_.an,.int .i64 s.f_.at_.aM,.int .i64 s.f_.at_.fl,.int .i64 s.f_.aF.fC,.int .i64 s.f_.aF.s1,.int .i64 s.f_.aF.s2,.int .i64 s.f_.aF.lp,.int .i64 s.f_.aF.use,.int .i64 s.f_.aF.j7,.bool s.f_.put,.bool s.f_.wrap,.bool s.f_.home,.int .i64 s.kG,.int .i64 s.kH,
 .bool s.has,.int .i32 s.last]
abbrev bl.an (s:bl):Chunk:=aD s.g (eZ s) 137
abbrev aO (s:bl):List Chunk:=[s.an,s.ap.an,aR (cc s.ap.r),s.ap.s.au,s.ap.s.b9,s.ap.bf.au,s.st.aF]
structure be where
 bg:gH
 bD:b0
 y:Int
 x:Int
 top:Int
 cR:Int
 f_:gH
 kG:Int
 kH:Int
 has:Bool
 last:Int
 xY:List Bool
def bl.abs (s:bl):be:=⟨s.bg,s.ap.abs,s.y,s.x,s.top,s.cR,s.f_,s.kG,s.kH,s.has,s.last,s.st.bs⟩
abbrev be.rows (s:be):Int:=s.bD.cG.length
abbrev be.cols (s:be):Int:=s.bD.cols
structure dX (s:be):Prop where
 bD:c7 s.bD
 y:0≤s.y∧s.y<s.rows
 x:0≤s.x∧s.x≤s.cols
 top:0≤s.top∧s.top≤s.cR∧s.cR<s.rows
structure dR (s:bl):Prop where
 r:cX s.ap.r
 st:cN.hW s.st.bs s.st.i
 n: (s.st.bs.length:Int)=s.ap.cols
structure hX (s:bl) (q:be) (z:bl):Prop where
 g:z.g=s.g
 ap:z.ap.g=s.ap.g
 st:z.st.g=s.st.g
 wf:dR z
 abs:z.abs=q
def fD (n lo hi:Int):Int:=max lo (min n hi)
def fE (s:be):Int:=min s.x (s.cols - 1)
def gr (s:be) (f:b0→b0):be:={ s with bD:=f s.bD }
def an (s:be):Int:=s.bg.at_.an
def aM (s:be):Int:=s.bg.at_.aM
def iS (s:be):be × Bool:=
 let s:={ s with x:=fE s }
 if s.y=s.cR then (gr s (λp=>hV p s.top s.cR 1 (λp a b=>mS p a b (an s) (aM s))),true)
 else if s.y<s.rows - 1 then ({ s with y:=s.y+1 },true) else (s,false)
def j8 (s:be) (w:Int):be:=
 if s.x+w≤s.cols then s else
 if s.bg.wrap=false then { s with x:=s.cols - w } else
 let s:=if s.x<s.cols then gr s (λp=>xL p s.y) else s
 let t:=iS s
 let s:={ t.1 with x:=0 }
 if t.2=true then gr s (λp=>iN p s.y true) else s
def rr (s:be) (r:Int):be:=
 let w:=dw r
 let s:=if w=0 then gr s (λp=>xK p s.y (s.x - 1) r) else s
 if w<1 then s else
 let s:=j8 s w
 let s:=if s.bg.put=true then gr s (λp=>vc p s.y s.x w (an s) (aM s)) else s
 let s:=gr s (λp=>vb p s.y s.x r s.bg.at_)
 { s with x:=s.x+w,last:=r }
theorem kI (w:World) (s:bl) (a:s.an.pred w):Calls prog 25 [ptr s.g].toArray w (Pure (ptr s.ap.g) w):=by
 refine aV func25 ntmps25 ?_;refine hq ?_;refine a_ Mo rfl rfl (λd b=>b.bU a (by (simp;done)) rfl) ?_;refine ay ?_;intro e c;exact⟨rfl,c.ext⟩
theorem R3 (w:World) (s:bl) (c:s.an.pred w) (ai:s.ap.an.pred w):Calls prog 198 [ptr s.g].toArray w (Pure (.int .i64 (s.ap.s.l.length:Int)) w):=by
 refine aV func198 ntmps198 ?_;refine aK ?_;refine ao rfl kw rfl (λa b=>kI a s (b.dF c av)) ?_;refine ao rfl q6 rfl (λa b=>ri a s.ap (b.dF ai av)) ?_;refine ay ?_;intro e d;exact⟨rfl,d.ext⟩
theorem HA (w:World) (s:bl) (c:s.an.pred w) (ai:s.ap.an.pred w):Calls prog 231 [ptr s.g].toArray w (Pure (.int .i64 s.ap.cols) w):=by
 refine aV func231 ntmps231 ?_;refine aK ?_;refine ao rfl kw rfl (λa b=>kI a s (b.dF c av)) ?_;refine ao rfl Ae rfl (λa b=>AV a s.ap (b.dF ai av)) ?_;refine ay ?_;intro e d;exact⟨rfl,d.ext⟩
theorem lq (w:World) (s:bl) (a:s.an.pred w):Calls prog 308 [ptr s.g].toArray w (Pure (.agg [.int .i64 s.bg.at_.an,.int .i64 s.bg.at_.aM].toArray) w):=by
 refine aV func308 ntmps308 ?_;refine ah ?_;intro e f h;refine aJ ?_;refine cx gA rfl rfl rfl (λi b j u c=>b.jJ (sz:=2) a (by (simp;done)) rfl j u c) ?_;refine ay ?_;intro k d;exact⟨rfl,d.ext⟩
theorem jq (w:World) (s:bl) (a:s.an.pred w) (ai:s.ap.an.pred w) (h:2≤s.ap.cols∧s.ap.cols≤1000):Calls prog 216 [ptr s.g].toArray w (Pure (.int .i64 (min s.x (s.ap.cols - 1))) w):=by
 refine aV func216 ntmps216 ?_;refine al ?_;refine bF [0,1,2,3,4] 1 [[(5,false,[6,7,8])]] ?_;refine ah ?_;refine aL rfl (λi c=>(a_ bN rfl rfl (λj d=>by subst d;exact c.bU a (by (simp;done)) rfl) aG)) ?_;refine ah ?_;refine ao rfl jE rfl (λe b=>HA e s (b.dF a av) (b.dF ai av)) ?_;refine aJ ?_;intro k f;exact⟨rfl,f.ext⟩
theorem nR (w:World) (n lo hi:Int):Calls prog 325 [.int .i64 n,.int .i64 lo,.int .i64 hi].toArray w (Pure (.int .i64 (fD n lo hi)) w):=by
 refine aV func325 ntmps325 ?_;refine ey ?_;intro b a;exact⟨rfl,a.ext⟩
def eo (s:bl) (v:Value) (q:be) (w:World):Ending→World→Prop:=aP (λ_:bl=>v) (aO s) aO (hX s q) w
structure cS (k:Nat) (s q:be):Prop where
 wf:dX s→dX q
 rows:q.bD.cG.length=s.bD.cG.length
 cols:q.bD.cols=s.bD.cols
 room:q.bD.room=s.bD.room
 bf:q.bD.gi.length≤s.bD.gi.length+k
theorem cS.refl (s:be):cS 0 s s:=⟨id,rfl,rfl,rfl,aa⟩
theorem cS.trans {a b:Nat} {p q r:be} (h:cS a p q) (k:cS b q r):cS (a+b) p r:=⟨λx=>k.wf (h.wf x),k.rows.trans h.rows,k.cols.trans h.cols,k.room.trans h.room,by have:=h.bf;have:=k.bf;omega⟩
theorem cS.mono {a b:Nat} {p q:be} (h:cS a p q) (c:a≤b):cS b p q:=⟨h.wf,h.rows,h.cols,h.room,by have:=h.bf;omega⟩
theorem hY (s:be) {f:b0→b0} {k:Nat} (h:Kept k s.bD (f s.bD)):cS k s (gr s f):=
 ⟨λw=>⟨h.wf w.bD,by show 0≤s.y∧s.y<((f s.bD).cG.length:Int);rw[h.rows];exact w.y,by show 0≤s.x∧s.x≤(f s.bD).cols;rw[h.cols];exact w.x,by show 0≤s.top∧s.top≤s.cR∧s.cR<((f s.bD).cG.length:Int);rw[h.rows];exact w.top⟩,h.rows,h.cols,h.room,h.bf⟩
theorem o4 (s:be) {x:Int} (h:dX s→0≤x∧x≤s.cols):cS 0 s { s with x:=x }:=⟨λw=>⟨w.bD,w.y,h w,w.top⟩,rfl,rfl,rfl,by show s.bD.gi.length≤_;omega⟩
theorem HC (s:be) {y:Int} (h:dX s→0≤y∧y<s.rows):cS 0 s { s with y:=y }:=⟨λw=>⟨w.bD,h w,w.x,w.top⟩,rfl,rfl,rfl,by show s.bD.gi.length≤_;omega⟩
theorem xZ {s:be} (w:dX s):0≤fE s∧fE s≤s.cols:=by
 have a:=w.bD.cols
 have b:=w.x
 simp only[fE,be.cols] at *
 omega
theorem x0 (p:b0) (x y:Int) {f:b0→Nat→Nat→b0} (c: ∀q a b,a<q.cG.length→b<q.cG.length→Kept 2 q (f q a b)):Kept 2 p (hV p x y 1 f):=by
 unfold hV;split
 rename_i h;obtain⟨⟨d,e⟩,⟨g,i⟩,j⟩:=h;exact (ve (λq k=>c q x.toNat y.toNat aa aa) _).mono aa;exact (Kept.refl p).mono aa
theorem td (s:be):cS 2 s (iS s).1:=by
 have c:cS 0 s { s with x:=fE s }:=o4 s (λw=>xZ w)
 unfold iS;dsimp only;split
 exact (c.trans (hY { s with x:=fE s } (f:=λp=>hV p s.top s.cR 1 (λp a b=>mS p a b (an s) (aM s))) (x0 s.bD _ _ (λq a b d e=>vd q d e _ _)))).mono aa;split
 exact (c.trans (HC _ (λw=>by have:=w.y;simp only[be.rows] at *;omega))).mono aa;exact c.mono aa
theorem dX.nums {s:bl} (h:dX s.abs): (1≤(s.ap.s.l.length:Int)∧(s.ap.s.l.length:Int)≤1000)∧(2≤s.ap.cols∧s.ap.cols≤1000)∧(0≤s.y∧s.y<s.ap.s.l.length)∧(0≤s.x∧s.x≤s.ap.cols)∧(0≤s.top∧s.top≤s.cR∧s.cR<s.ap.s.l.length):=by
 have f: (b5 s.ap.s.l).length=s.ap.s.l.length:=by simp[b5]
 obtain⟨⟨c,d,-,-,-⟩,a,e,b⟩:=h;simp only[bl.abs,bq.abs,be.rows,be.cols] at c d a e b
 rw[f] at d a b
 exact⟨aa,c,a,e,b⟩
theorem kJ {s:bl} {w b:World} {X cs':List Chunk} {v v2:Value} {q:b0} {Q:be} (t:bl) (i:bq) (a:t.g=s.g∧t.ap.g=s.ap.g∧t.st.g=s.st.g) (c:dR t) (hi:i.g=t.ap.g∧cX i.r∧i.abs=q) (f:q.cols=t.ap.cols) (h: { t.abs with bD:=q } = Q) (j:v2=v)
 (k:af w (aB (aO s)) X b) (l:aA X [t.an,i.an,aR (cc i.r),i.s.au,i.s.b9,i.bf.au,t.st.aF] cs'):eo s v Q w (.returned v2) b:=by
 obtain⟨d,m,e⟩:=hi;refine aP.bQ { t with ap:=i } ⟨a.1,d.trans a.2.1,a.2.2,⟨m,c.st,?_⟩,?_⟩ j ?_;have:i.cols=q.cols:=by rw[←e];rfl
 rw[c.n,←f,←this];rw[←h];simp only[bl.abs,e]
 have o:=k.ax l
 simpa only[aO,bl.an,eZ,d] using o
theorem fb {s:bl} {w b:World} {X cs':List Chunk} {v v2:Value} {q:be} (t:bl) (a:t.g=s.g∧t.ap.g=s.ap.g∧t.st.g=s.st.g) (c:dR t) (d:t.abs=q) (e:v2=v)
 (f:af w (aB (aO s)) X b) (h:aA X (aO t) cs'):eo s v q w (.returned v2) b:=aP.bQ t ⟨a.1,a.2.1,a.2.2,c,d⟩ e (f.ax h)
abbrev ht (s:bl):bl:={ s with x:=min s.x (s.ap.cols - 1) }
theorem nS (w:World) (s:bl) (p:bq) (e:s.ap=p) (a:s.an.pred w) (ai:s.ap.an.pred w):Calls prog 198 [ptr s.g].toArray w (Pure (.int .i64 (p.s.l.length:Int)) w):=by subst e;exact R3 w s a ai
theorem j9 (w:World) (s:bl) (p:bq) (e:s.ap=p) (a:s.an.pred w) (ai:s.ap.an.pred w):Calls prog 231 [ptr s.g].toArray w (Pure (.int .i64 p.cols) w):=by subst e;exact HA w s a ai
theorem HD {s:bl} (h:s.y=s.cR):iS s.abs=({ (ht s).abs with bD:=hV s.ap.abs s.top s.cR 1 (λq a b=>mS q a b s.bg.at_.an s.bg.at_.aM) },true):=by
 unfold iS;exact aw h
theorem l6 (s:bl):s.abs.bD.cG.length=s.ap.s.l.length:=by simp[bl.abs,bq.abs,b5]
theorem HE {s:bl} (h: ¬s.y=s.cR) (a:s.y<(s.ap.s.l.length:Int) - 1):iS s.abs=({ ht s with y:=s.y+1 }.abs,true):=by
 unfold iS;exact (ag h).trans (aw (by show s.y<(s.abs.bD.cG.length:Int) - 1;rw[l6];exact a))
theorem HF {s:bl} (h: ¬s.y=s.cR) (a: ¬s.y<(s.ap.s.l.length:Int) - 1):iS s.abs=((ht s).abs,false):=by
 unfold iS;exact (ag h).trans (ag (by show ¬s.y<(s.abs.bD.cG.length:Int) - 1;rw[l6];exact a))
theorem HG (w:World) (s:bl) (m:a8 w (aO s)) (c:dR s) (i:dX s.abs) (o:s.ap.bf.l.length≤1152921500000):
 Calls prog 219 [ptr s.g].toArray w (eo s (.bool (iS s.abs).2) (iS s.abs).1 w):=by
 obtain⟨v,p,x,z,j⟩:=i.nums;refine bI func219 ntmps219 m ?_;refine aJ ?_;refine ao rfl jg rfl (λe d=>jq e s (d.has aT) (d.has bJ) p) ?_;refine aK ?_;refine bF [0,1,2,3,4,5,6,7,8,9] 0 [[]] ?_;refine bH ?_;refine aj (λf=>?_) (λf=>?_);refine bF [0,1,2,3,4,5,6,7,8,9,10,11,12] 2 [[(13,false,[]),(14,true,[])]] ?_;refine cF ?_;refine ao rfl k8 rfl (λe d=>lq e (ht s) (d.has aT)) ?_;refine ah ?_;refine cJ (λe d=>G9 e s.ap d c.r i.bD o s.top s.cR 1 s.bg.at_.an s.bg.at_.aM) (λi32 t=>?_);refine bx ?_;intro k h;exact kJ (ht s) i32 ⟨rfl,rfl,rfl⟩ ⟨c.r,c.st,c.n⟩ t (x0 s.ap.abs s.top s.cR (λq a b u j=>vd q u j s.bg.at_.an s.bg.at_.aM)).cols (by rw[HD f]) (by rw[HD f]) h ae;refine ar ?_;refine bF [0,1,2,3,4] 1 [[(5,false,[6,7,8])]] ?_;refine aC ?_;refine ao rfl nu rfl (λe d=>nS e (ht s) s.ap rfl (d.has aT) (d.has bJ)) ?_;refine aC ?_;refine aj (λaH=>?_) (λaH=>?_);refine eL ?_;intro k h;exact fb { ht s with y:=s.y+1 } ⟨rfl,rfl,rfl⟩ ⟨c.r,c.st,c.n⟩ (by rw[HE f aa]) (by rw[HE f aa]) h ae;refine aJ ?_;intro k h;exact fb (ht s) ⟨rfl,rfl,rfl⟩ ⟨c.r,c.st,c.n⟩ (by rw[HF f aa]) (by rw[HF f aa]) h ae
end Go.Proofs.YtlgnfdodnhokjaaGreatDoor.Mq
