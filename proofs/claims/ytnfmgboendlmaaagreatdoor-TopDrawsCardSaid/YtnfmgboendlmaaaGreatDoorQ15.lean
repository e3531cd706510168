/- part 15 of the proof -/
import Derived.Test.YtnfmgboendlmaaaGreatDoorQ14
import Derived.Shelf.Small.Bits
import Derived.Shelf.Spec.TrailingZeros
set_option linter.all false
namespace Go.Proofs.YtnfmgboendlmaaaGreatDoor.Mq
open RowKit Tryz
variable {s:Bool}{r:Int}{e p:List Chunk}{g:List Nat}{c k:Nat}{m q:Value}{d l:World}{v:b8}{u:b8->Nat->Nat->b8}(a:World)(t:b8)(b:Nat)(i:Int)(j:Nat)(n o:Int)
namespace dw
def HG:Shelf.Ren:=⟨λ| 29=>423 | n=>n,λ| 0=>0 | 3=>3 | 4=>4 | 5=>5 | 22=>63 | 25=>276 | 54=>465 | n=>n,λ| 1=>1 | n=>n⟩
def P6:Lays7.n29 prog HG where
 mixed:=by kernel_rfl
 f29:=func423.trans<|a_ some ak
 t0:=underlying0
 a0:=isAgg0
 z0:=sizeOf0
 v0:=zeroValue0
 i0:=by kernel_rfl
 t3:=underlying3
 a3:=isAgg3
 z3:=sizeOf3
 v3:=zeroValue3
 i3:=by kernel_rfl
 t4:=underlying4
 a4:=isAgg4
 z4:=sizeOf4
 v4:=zeroValue4
 i4:=by kernel_rfl
 t5:=underlying5
 a5:=isAgg5
 z5:=sizeOf5
 v5:=zeroValue5
 i5:=by kernel_rfl
 t22:=underlying63
 a22:=isAgg63
 z22:=sizeOf63
 v22:=zeroValue63
 i22:=by kernel_rfl
 t25:=underlying276
 a25:=isAgg276
 z25:=sizeOf276
 v25:=zeroValue276
 i25:=by kernel_rfl
 t54:=underlying465
 a54:=isAgg465
 z54:=sizeOf465
 g1:=by kernel_rfl
def P7:Shelf.Ren:=⟨λ| 129=>403 | 134=>424 | n=>n,λ| 3=>3 | 4=>4 | 5=>5 | 9=>9 | 46=>276 | 53=>63 | n=>n,λn=>n⟩
def P8:Lays.n134 prog P7 where
 mixed:=by kernel_rfl
 f129:=func403.trans<|a_ some ak
 f134:=func424.trans<|a_ some ak
 t3:=underlying3
 a3:=isAgg3
 z3:=sizeOf3
 v3:=zeroValue3
 t4:=underlying4
 a4:=isAgg4
 z4:=sizeOf4
 v4:=zeroValue4
 t5:=underlying5
 a5:=isAgg5
 z5:=sizeOf5
 v5:=zeroValue5
 t9:=underlying9
 a9:=isAgg9
 z9:=sizeOf9
 v9:=zeroValue9
 t46:=underlying276
 a46:=isAgg276
 z46:=sizeOf276
 v46:=zeroValue276
 t53:=underlying63
 a53:=isAgg63
 z53:=sizeOf63
 v53:=zeroValue63
def ka:b1 Nat:=⟨λa=>[.int .u64 (a:Int)],1,λ_=>rfl,λ_=>by repeat (first | exact aV.nil | refine aV.cons rfl ?_)⟩
structure gi where
 A:Option Addr
 m:Nat
 c:Nat
 ws:List Nat
abbrev zy(a:gi):List Value:=[.slice a.A a.m a.c,ad (b:Int)]
def fz(a:gi):Chunk:=both (aG b (zy j a) 271)<|own 63 1 (.slice a.A a.m a.c) a.m<|ka.all a.ws
structure jk (bs:List Bool) (i:gi):Prop where
 px:bj i.ws bs
 le:bs.length<=1000
 len:i.ws.length=i.m
 m16:i.m<=16
structure ih (w:World) (g n:Nat) (i:gi):Prop where
 c0:w.cell? ⟨g,0,none⟩=some (.slice i.A i.m i.c)
 ce:w.cell? ⟨g,1,none⟩=some (ad (n:Int))
 rd:Rd ka w (λ_=>True) i.A i.m i.c i.ws
def ih.of{i:gi}(a: (fz c k i).pred d)(e:i.ws.length=i.m):ih d c k i:=by
 have b:d.heap[c]? = some (.cells (zy k i).toArray 271 (0,0)):=a.1
 obtain⟨l,n,f,g⟩:=Rd.ho (E:=ka) (l:=i.ws) a.2 e;injection f with h o j
 subst h j;exact⟨by rw[cell_of_row d c 0 _ _ _ b];rfl,by rw[cell_of_row d c 1 _ _ _ b];rfl,g.d8 λ_ _=>bh⟩
def ih.ext{i:gi}(a:ih d c k i)(b:Ext [] d l):ih l c k i:=
 ⟨by rw[b.cell (World.block_lt_of_cell? _ _ a.c0) au];exact a.c0,by rw[b.cell (World.block_lt_of_cell? _ _ a.ce) au];exact a.ce,a.rd.ext b au⟩
abbrev ptr :Value:= .pointer<|some ⟨b,0,none⟩
def wS :ay 166 [ad i] a (λe f=>e= .returned (.bool<|decide<|2<=i/\i<=1000)/\Ext [] a f):=by
 refine ba func166 ntmps166 ?_;refine be ?_;refine bl 5 rfl (λb=>?_) λb=>?_;have c:=bg b
 refine be ?_;exact λg d=>⟨by simp[c],d.ext⟩
 have c:=bm b
 refine aY ?_;exact λg d=>⟨by simp[c],d.ext⟩
def HH(d:gi)(e:ih a b j d):ay 413 [ptr b] a (λf c=>f= .returned (ad (j:Int))/\Ext [] a c):=by
 refine ba func413 ntmps413 ?_;refine gR ?_;refine bb bY rfl rfl (λc g=>g.ch e.ce au)<|aI ?_;exact λi h=>⟨rfl,h.ext⟩
def HI(h:gi)(i:ih a b j h)(c:Int):ay 332 [ptr b,ad c] a (λk d=>k= .returned (.bool<|decide<|0<=c/\c<(j:Int))/\Ext [] a d):=by
 refine ba func332 ntmps332 ?_;refine be ?_;refine bl 7 rfl (λe=>?_) λe=>?_;have f:=bg e
 refine aI ?_;refine bd (λd l=>HH d b j h<|i.ext l.ext)<|aY ?_;exact λm g=>⟨by simp[f],g.ext⟩
 have f:=bm e
 refine be ?_;exact λm g=>⟨by simp[f],g.ext⟩
def P9 : (b:Int)/2 ^ min ((j:Int)%64).toNat IntKind.u64.bits=((b/2 ^ (j%64):Nat):Int):=by
 have a:min ((j:Int)%64).toNat IntKind.u64.bits=j%64:=by simp only[IntKind.bits];omega
 rw[a];simp
def zz{bs:List Bool}{a:gi}(b:jk bs a)(f:c<bs.length): ∃d,a.ws[c/64]? = some d/\d<2 ^ 64/\c/64<a.m:=by
 have g:=b.px.eU
 have e:c/64<a.ws.length:=by omega
 exact⟨a.ws[c/64],bD e,b.px.lt _<|sB e,by have:=b.len;omega⟩
def HJ :IntKind.u64.wrap (1*2 ^ min ((b:Int)%64).toNat IntKind.u64.bits)=((2 ^ (b%64):Nat):Int):=by
 have a:min ((b:Int)%64).toNat IntKind.u64.bits=b%64:=by simp only[IntKind.bits];omega
 have c:2 ^ (b%64)<2 ^ 64:=sL aW<|jA _ aW
 rw[a,Int.one_mul];have: ((2 :Int) ^ (b%64))=((2 ^ (b%64):Nat):Int):=by simp
 rw[this];generalize 2 ^ (b%64)=d at *
 simp[IntKind.wrap,IntKind.bits,IntKind.signed]
 omega
def HK(a:c<2 ^ 64):IntKind.u64.wrap (c:Int)=(c:Int):=by
 simp[IntKind.wrap,IntKind.bits,IntKind.signed];omega
def HL :2 ^ (b%64)<2 ^ 64:=sL aW<|jA _ aW
def HM{bs:List Bool}(a: ¬(0<=r/\r<(bs.length:Int))):oO bs r s=bs:=ai a
def HN{b i f a:Nat}{h:List Nat}(j:ag d g e l)(m:Has e (own c 1 (.slice (some ⟨k,0,none⟩) b i) b<|ka.all h))(n:h[f]? = some a):
 l.cell? ((⟨k,0,none⟩ :Addr).add<|f*1)=some (.int .u64 (a:Int)):=by
 rw[Addr.add_lit,ev,Nat.mul_one];refine j.FT m ?_;have:=ka.nE (j:=0) (u:= .int .u64 (a:Int)) n rfl
 simpa [ka] using this
abbrev e2(a:gi)(c:List Bool)(d:World):=mP (λ_=>Value.tuple #[]) (fz b j a) (fz b j ·) (jk c ·) d
def HO(bs:List Bool)(d:gi)(f:jk bs d)(p: (fz b bs.length d).pred a)(x: (fz b bs.length d).cT.Nodup)(g:Int)(F: -9223372036854775808<=g/\g<=9223372036854775807):
 ay 243 [ptr b,ad g] a (e2 b bs.length d (oO bs g true) a):=by
 have G:=ih.of p f.len
 refine calls (n:=20) func243 rfl ntmps243 rfl ?_;refine dh (H':=ag a (fz b bs.length d).cT [fz b bs.length d]) (a7 ?_) (Sub.refl _) λg y=>ag.sV y p x;refine cU (λz A=>HI z b _ d (ih.of A f.len) g) ?_;refine (aE) (λr=>?_) λr=>aA ?_;obtain⟨c,rfl⟩ : ∃c:Nat,g=(c:Int):=⟨g.toNat,aa⟩;have s:c<bs.length:=by omega
 obtain⟨k,m,t,e⟩:=zz f s;have u:=f.len
 obtain⟨H,i,n,l⟩:=d;dsimp only at m e u
 refine y1 bH.head<|jd (Has.tail Has.head) λI J B _ _ _ C=>?_;injection B with q K D
 subst q D;obtain⟨o,v⟩:=C (by show 0<i;omega);dsimp only at v
 subst v;have w:=ka.rx (j:=0) (a':=k ||| 2 ^ (c%64)) (v:= .int .u64 ((k ||| 2 ^ (c%64):Nat):Int)) m aW rfl
 refine fg [0,1,2,3,4,5,6,7,8,9,10,11,12] 1 [[(13,true,[])]] (ag a (fz b bs.length ⟨some ⟨o,0,none⟩,i,n,l⟩).cT [aG b (zy bs.length ⟨some ⟨o,0,none⟩,i,n,l⟩) 271,own 63 1 (.slice (some ⟨o,0,none⟩) i n) i<|ka.all l]) mixed ak (λ_ h=>h.drew) (λ_ p=>dC)<|aI ?_;refine aO rfl (λj e=>(uy rfl rfl rfl aa aa aa aJ)) ?_;refine aO rfl (λj e=>(bE (q:=c/64) s6 rfl rfl rfl bo aa aa aJ)) ?_;refine aO rfl (λj e=>(bb s0 rfl rfl (λL q=>by subst q;exact (HN e (Has.tail Has.head) m)) aJ)) ?_;refine av ?_;refine aO rfl (λj e=>(pd rfl rfl rfl aa aa aJ)) ?_;refine aO rfl (λj e=>(pj (r:=((2 ^ (c%64):Nat):Int)) rfl rfl rfl aa (HJ c) aJ)) ?_;refine aO rfl (λj e=>(mO (r:=((k ||| 2 ^ (c%64):Nat):Int)) rfl rfl rfl (or_eq (m:=k) (n:=2 ^ (c%64)) rfl rfl t (HL c)<|HK<|HF t<|jA _ aW) aJ)) ?_;refine aO rfl (λj e=>(bE (q:=c/64) s6 rfl rfl rfl bo aa aa aJ))<|aA ?_;refine mE (o:=c/64) s0 rfl rfl fs (by simp[Addr.add_lit]) rfl (by rw[ka.eD];show _<l.length*1;omega) ?_;refine a7 ?_;intro E h;rw[show c/64*ka.ax+0=c/64 by simp[ka]] at w
 dsimp only at h
 rw[w] at h
 refine mP.of (⟨some ⟨o,0,none⟩,i,n,l.set (c/64)<|k ||| 2 ^ (c%64)⟩ :gi) ⟨f.px.set m s,by rw[oP];exact f.le,by simpa using u,f.m16⟩<|h.both bH.head bH.head;intro E h;rw[HM r];exact mP.of d f h
def HP(bs:List Bool)(d:gi)(f:jk bs d)(p: (fz b bs.length d).pred a)(x: (fz b bs.length d).cT.Nodup)(g:Int)(F: -9223372036854775808<=g/\g<=9223372036854775807):
 ay 242 [ptr b,ad g] a (e2 b bs.length d (oO bs g false) a):=by
 have G:=ih.of p f.len
 refine calls (n:=20) func242 rfl ntmps242 rfl ?_;refine dh (H':=ag a (fz b bs.length d).cT [fz b bs.length d]) (a7 ?_) (Sub.refl _) λg y=>ag.sV y p x;refine cU (λz A=>HI z b _ d (ih.of A f.len) g) ?_;refine (aE) (λr=>?_) λr=>aA ?_;obtain⟨c,rfl⟩ : ∃c:Nat,g=(c:Int):=⟨g.toNat,aa⟩;have s:c<bs.length:=by omega
 obtain⟨k,m,t,e⟩:=zz f s;have u:=f.len
 obtain⟨H,i,n,l⟩:=d;dsimp only at m e u
 refine y1 bH.head<|jd (Has.tail Has.head) λI J B _ _ _ C=>?_;injection B with q K D
 subst q D;obtain⟨o,v⟩:=C (by show 0<i;omega);dsimp only at v
 subst v;have w:=ka.rx (j:=0) (a':=k &&& (18446744073709551615 - 2 ^ (c%64))) (v:= .int .u64 ((k &&& (18446744073709551615 - 2 ^ (c%64)):Nat):Int)) m aW rfl
 refine fg [0,1,2,3,4,5,6,7,8,9,10,11,12] 1 [[(13,true,[])]] (ag a (fz b bs.length ⟨some ⟨o,0,none⟩,i,n,l⟩).cT [aG b (zy bs.length ⟨some ⟨o,0,none⟩,i,n,l⟩) 271,own 63 1 (.slice (some ⟨o,0,none⟩) i n) i<|ka.all l]) mixed ak (λ_ h=>h.drew) (λ_ p=>dC)<|aI ?_;refine aO rfl (λj e=>(uy rfl rfl rfl aa aa aa aJ)) ?_;refine aO rfl (λj e=>(bE (q:=c/64) s6 rfl rfl rfl bo aa aa aJ)) ?_;refine aO rfl (λj e=>(bb s0 rfl rfl (λL q=>by subst q;exact (HN e (Has.tail Has.head) m)) aJ)) ?_;refine av ?_;refine aO rfl (λj e=>(pd rfl rfl rfl aa aa aJ)) ?_;refine aO rfl (λj e=>(pj (r:=((2 ^ (c%64):Nat):Int)) rfl rfl rfl aa (HJ c) aJ)) ?_;refine aO rfl (λj e=>(uG (r:=((k &&& (18446744073709551615 - 2 ^ (c%64)):Nat):Int)) rfl rfl rfl (BU (m:=k) (n:=2 ^ (c%64)) rfl rfl t (HL c)<|HK<|ot uo t) aJ)) ?_;refine aO rfl (λj e=>(bE (q:=c/64) s6 rfl rfl rfl bo aa aa aJ))<|aA ?_;refine mE (o:=c/64) s0 rfl rfl fs (by simp[Addr.add_lit]) rfl (by rw[ka.eD];show _<l.length*1;omega) ?_;refine a7 ?_;intro E h;rw[show c/64*ka.ax+0=c/64 by simp[ka]] at w
 dsimp only at h
 rw[w] at h
 refine mP.of (⟨some ⟨o,0,none⟩,i,n,l.set (c/64)<|k &&& (18446744073709551615 - 2 ^ (c%64))⟩ :gi) ⟨f.px.P1 m s,by rw[oP];exact f.le,by simpa using u,f.m16⟩<|h.both bH.head bH.head;intro E h;rw[HM r];exact mP.of d f h
def HQ: ∀m:Nat,ka.all (List.replicate m 0)=List.replicate m (Value.int .u64 0)
 | 0=>rfl
 | m+1=>by rw[oq,oq,<-HQ m];rfl
def Ch(bs:List Bool)(c:gi)(e:jk bs c)(h: (fz b bs.length c).pred a)(i: (fz b bs.length c).cT.Nodup)(t:0<bs.length):
 ay 293 [ptr b] a (e2 b bs.length c (List.replicate bs.length false) a):=by
 refine calls (n:=8) func293 rfl ntmps293 rfl ?_;refine dh (H':=ag a (fz b bs.length c).cT [fz b bs.length c]) (aU ?_) (Sub.refl _) λu j=>ag.sV j h i;have k:=e.px.eU
 have l:=e.len
 obtain⟨v,d,m,w⟩:=c;dsimp only at k l
 refine y1 bH.head<|jd (Has.tail Has.head) λx y n _ _ _ o=>?_;injection n with p z q
 subst p q;obtain⟨r,f⟩:=o (by show 0<d;omega);dsimp only at f
 subst f;have s:=HQ d
 refine aI ?_;refine Oi underlying269 zeroValue63 rfl rfl (show 0<d by omega) rfl fs ?_;refine aA ?_;intro A g;rw[<-s] at g
 exact mP.of (⟨some ⟨r,0,none⟩,d,m,List.replicate d 0⟩ :gi) ⟨bj.gg d bs.length aa,by simpa using e.le,by simp,e.m16⟩<|g.both bH.head bH.head
def oQ :Prop:=TabAt (HG.g 1) Lib.deBruijn64tab a
def oQ.ext(a:oQ d)(e:Ext [] d l):oQ l:=λb c=>by
 rw[e.cell (World.block_lt_of_cell? _ _<|a b c) au];exact a b c
def P_(c:oQ a)(b:Nat)(d:b<2 ^ 64):ay 423 [.int .u64 (b:Int)] a (λe f=>e= .returned (ad (Lib.ctz 64 b:Int))/\Ext [] a f):=
 (Any7.bits_TrailingZeros64 P6 b d a λ_=>c).mono λ_ _ ⟨g,h⟩=>⟨g,h▸Ext.refl _ _⟩
def Qa(g:b<2 ^ 64):ay 424 [.int .u64 (b:Int)] a (λc d=>c= .returned (ad<|64 - (Lib.bitLen b:Int))/\Ext [] a d):=
 (Any.bits_LeadingZeros64 P8 (b:Int) a aa aa).mono λ_ _ ⟨e,f⟩=>⟨by rw[e,gw],f▸Ext.refl _ _⟩
def Qb(t:oQ a)(l:Nat)(bs:List Bool)(r:gi)(k:jk bs r)(d:ih a l bs.length r)(g:Nat)(I:g<bs.length):
 ay 347 [ptr l,ad (g:Int)] a (λu e=>u= .returned (ad (kP bs g:Int))/\Ext [] a e):=by
 have J:=k.le
 refine ba func347 ntmps347 ?_;refine cZ ?_;refine cd (ι:=Nat) (λb=>[(0,ptr l),(1,ad (b:Int))]) (λ_=>ag a [] []) (λb=>g<b/\b<=1100/\ ∀h,g<h->h<b->cu bs h=false) (λb=>1100 - b) ?_ ?_;exact λa f=>⟨g+1,⟨aa,aa,by intro h j m;omega⟩,(ig rfl rfl),f⟩
 rintro b ⟨v,K,n⟩;refine aU ?_;refine bb bY rfl rfl (λe c=>c.ch d.ce au) ?_;refine (aE) (λw=>?_) λw=>be ?_;have x:b<bs.length:=by omega
 obtain⟨i,o,y,s⟩:=zz k x;obtain⟨L,z,_,A⟩:=d.rd.at_ o;have B:i/2 ^ (b%64)<2 ^ 64:=ot (Nat.div_le_self _ _) y
 refine a6 ?_;refine bb Gj rfl rfl (λe c=>c.ch d.c0 au)<|av ?_;refine uy rfl rfl rfl aa aa aa<|bE (q:=b/64) s6 rfl rfl rfl z aa aa<|bb s0 rfl rfl (λe c=>c.ch (A 0 _ rfl) au)<|av ?_;refine pd rfl rfl rfl aa aa<|rJ (r:=((i/2 ^ (b%64):Nat):Int)) rfl rfl rfl aa (P9 i b)<|a6 ?_;generalize p:i/2 ^ (b%64)=C at *
 refine (cj) (λD=>?_) λD=>?_;have q:i/2 ^ (b%64)≠0:=by rw[p];omega
 obtain⟨j,m,E⟩:=k.px.P2 o v n q;rw[p] at j m E
 refine av ?_;refine fg [0,1,4,5,6,7,8] 1 [[(2,false,[3,9,10])]] (ag a [] []) mixed ak (λ_ f=>f.drew) (λ_ d=>dC)<|aI ?_;refine aO rfl (λM s=>(bb bY rfl rfl (λN F=>by subst F;exact (s.ch d.ce au)) aJ)) ?_;refine ap ?_;refine bd (λe c=>P_ e (t.ext c.ext) C B)<|cv (λ_=>True) (λ_ d=> .inr dC) (λ_ d=>bh) ?_;refine cn ?_;intro G f;refine⟨?_,f.ext⟩;rw[j];congr 2
 omega
 have q:i/2 ^ (b%64)=0:=by rw[p];omega
 have H:=k.px.P3 o n q
 refine aI ?_;refine uy rfl rfl rfl aa aa aa<|av ?_;refine mD rfl rfl rfl (wrap64 aa aa)<|aA ?_;refine bv ((b/64+1)*64) ⟨aa,aa,H⟩ aa (ig rfl rfl) λe c=>c;refine bb bY rfl rfl (λe c=>c.ch d.ce au)<|aH ?_;intro G f;refine⟨?_,f.ext⟩;rw[HB λh j m=>n h j aa];congr 2
 omega
def Qc :IntKind.u64.wrap ((b:Int)*2 ^ min (63 - (j:Int)%64).toNat IntKind.u64.bits)=((b*2 ^ (63 - j%64)%2 ^ 64 :Nat):Int):=by
 have a:min (63 - (j:Int)%64).toNat IntKind.u64.bits=63 - j%64:=by simp only[IntKind.bits];omega
 rw[a];have: ((b:Int)*2 ^ (63 - j%64))=((b*2 ^ (63 - j%64):Nat):Int):=by simp
 rw[this];generalize b*2 ^ (63 - j%64)=c
 simp[IntKind.wrap,IntKind.bits,IntKind.signed]
def Qd(bs:List Bool)(n:gi)(h:jk bs n)(o:ih a b bs.length n)(e:Nat)(E:e<bs.length):
 ay 349 [ptr b,ad (e:Int)] a (λu i=>u= .returned (ad (j_ bs e:Int))/\Ext [] a i):=by
 have F:=h.le
 refine ba func349 ntmps349 ?_;refine cZ ?_;refine cd (ι:=Nat) (λc=>[(0,ptr b),(1,ad<|(c:Int) - 1)]) (λ_=>ag a [] []) (λc=>c<=e/\ ∀d,c<=d->d<e->cu bs d=false) (λc=>c) ?_ ?_;exact λa f=>⟨e,⟨cC _,by intro d k p;omega⟩,(ig rfl rfl),f⟩
 rintro l ⟨G,q⟩;refine (aE) (λv=>?_) λv=>?_;obtain⟨c,rfl⟩ : ∃c,l=c+1:=⟨l - 1,aa⟩;rw[show ((c+1 :Nat):Int) - 1=(c:Int) by omega];have w:c<bs.length:=by omega
 obtain⟨j,m,H,I⟩:=zz h w;obtain⟨J,x,_,y⟩:=o.rd.at_ m;have r:j*2 ^ (63 - c%64)%2 ^ 64<2 ^ 64:=jA _ aW
 refine a6 ?_;refine bb Gj rfl rfl (λi g=>g.ch o.c0 au)<|av ?_;refine uy rfl rfl rfl aa aa aa<|bE (q:=c/64) s6 rfl rfl rfl x aa aa<|bb s0 rfl rfl (λi g=>g.ch (y 0 _ rfl) au)<|av ?_;refine pd rfl rfl rfl aa aa<|av ?_;refine pj (r:=((j*2 ^ (63 - c%64)%2 ^ 64 :Nat):Int)) rfl rfl rfl aa (Qc j c)<|a6 ?_;have s: ∀d,c<d->d<e->cu bs d=false:=λd k p=>q d aa p
 have z:=h.px.P4 m (show c<e by omega) s
 have A:=h.px.P5 m s
 generalize K:j*2 ^ (63 - c%64)%2 ^ 64=t at *
 refine (cj) (λB=>?_) λB=>?_;have k:=z aa
 have L:=Lib.bitLen_le t 64 aW r
 refine a7 ?_;refine bF (Qa · t r)<|bP ?_;intro C f;refine⟨?_,f.ext⟩;rw[k];have D:=A aa
 refine aI ?_;refine uy rfl rfl rfl aa aa aa<|mD rfl rfl rfl (wrap64 aa aa)<|ap ?_;refine bv (64*(c/64)) ⟨aa,D⟩ aa (Sub.cons bo<|Sub.cons ?_ Sub.nil) λi g=>g;show some _=some _
 congr 2
 omega
 obtain rfl:l=0:=by omega
 refine b6 ?_;intro C f;refine⟨?_,f.ext⟩;rw[PZ (q · (b4 _) ·)];rfl
def HR(n:Nat)(s:gi)(o:ih a b n s)(A:0<n/\n<=1000)(j:FuncId)(t:dX prog j)(k:List Value)(g:Nat->Nat)(u: ∀c,c<n->g c<n)
 (v: ∀d,Ext [] a d-> ∀c,c<n->Calls prog j ([]++[Value.int .i64 (c:Int)]++k).toArray d λl w=>l= .returned (ad (g c:Int))/\Ext [] d w) (c i:Int):
 ay 345 [ptr b,ad c,ad i,.func (.func j) ([]:List Value).toArray k.toArray] a (λl d=>l= .returned (ad (pw g n c i:Int))/\Ext [] a d):=by
 obtain⟨N,p⟩ : ∃N:Nat,min (max 0 i) (n:Int)=(N:Int):=⟨(min (max 0 i) (n:Int)).toNat,aa⟩;obtain⟨h,q⟩ : ∃h:Nat,max 0 (min c<|(n:Int) - 1)=(h:Int):=⟨(max 0<|min c<|(n:Int) - 1).toNat,aa⟩;have r:pw g n c i=iter g N h:=by
  unfold pw zv;rw[p,q,gw,gw]
 have x:h<n:=by omega
 rw[r];clear r;refine ba func345 ntmps345 ?_;refine lb ?_;refine bb bY rfl rfl (λd f=>f.ch o.ce au)<|cZ ?_;refine bb bY rfl rfl (λd f=>f.ch o.ce au)<|aI ?_;rw[p,q];refine cd (ι:=Nat) (λe=>[(1,ad (iter g e h:Int)),(3,.func (.func j) ([]:List Value).toArray k.toArray),(25,ad (N:Int)),(26,ad (e:Int))]) (λ_=>ag a [] []) (λe=>e<=N) (λe=>N - e) ?_ ?_;exact λa m=>⟨0,b4 _,(da rfl rfl rfl rfl),m⟩
 intro e B;have y:=xd u e h x
 refine (aE) (λz=>aU ?_) λz=>?_;refine ix (first:=[]) rfl rfl t rfl (λd f=>v d f.ext _ y) ?_;refine aY ?_;exact bv (e+1) aa aa b5 λd f=>f;obtain rfl:e=N:=by omega
 refine cn ?_;exact λC m=>⟨rfl,m.ext⟩
def Qe(h:oQ a)(g e:Nat)(bs:List Bool)(f:gi)(i:jk bs f)(j:ih a e bs.length f)(k:a.cell? ⟨g,0,none⟩=some (ptr e))(b:Nat)(l:b<bs.length):
 ay 346 [ad (b:Int),ptr g] a (λm c=>m= .returned (ad (kP bs b:Int))/\Ext [] a c):=by
 refine ba func346 ntmps346 ?_;refine aU ?_;refine bb BG rfl rfl (λc d=>d.ch k au)<|av ?_;refine bd (λc d=>Qb c (h.ext d.ext) e bs f i (j.ext d.ext) b l)<|aI ?_;exact λo n=>⟨rfl,n.ext⟩
def Qf(bs:List Bool)(e:gi)(g:jk bs e)(h:ih a j bs.length e)(i:a.cell? ⟨b,0,none⟩=some (ptr j))(c:Nat)(k:c<bs.length):
 ay 348 [ad (c:Int),ptr b] a (λl d=>l= .returned (ad (j_ bs c:Int))/\Ext [] a d):=by
 refine ba func348 ntmps348 ?_;refine aU ?_;refine bb BG rfl rfl (λd f=>f.ch i au)<|av ?_;refine bd (λd f=>Qd d j bs e g (h.ext f.ext) c k)<|aI ?_;exact λn m=>⟨rfl,m.ext⟩
def HS{v:Value}(a:ag l g e d)(b:Has e (aG c [v] k)):d.cell? ⟨c,0,none⟩=some v:=a.e8 b rfl
def Qg(o:oQ a)(b:Nat)(bs:List Bool)(c:gi)(k:jk bs c)(l:ih a b bs.length c)(m:0<bs.length)(e f:Int):
 ay 253 [ptr b,ad e,ad f] a (λp g=>p= .returned (ad (pw (kP bs) bs.length e f:Int))/\Ext [] a g):=by
 refine ba func253 ntmps253 ?_;refine ap ?_;intro h s t;refine aY ?_;refine yK (us:=[]) (vs:=[ptr h]) rfl rfl rfl<|bd (λg d=>HR g b _ c (l.ext d.ext) ⟨m,k.le⟩ _ cL [ptr h] (kP bs) (λi n=>HC i m) (λq j i n=>Qe q ((o.ext d.ext).ext j) h b bs c k ((l.ext d.ext).ext j) (HS (d.keep j) Has.head) i n) e f) ?_;refine aI ?_;exact λu r=>⟨rfl,r.ext⟩
def wW(bs:List Bool)(c:gi)(j:jk bs c)(k:ih a b bs.length c)(n:0<bs.length)(d e:Int):
 ay 254 [ptr b,ad d,ad e] a (λo f=>o= .returned (ad (pw (j_ bs) bs.length d e:Int))/\Ext [] a f):=by
 refine ba func254 ntmps254 ?_;refine ap ?_;intro g r s;refine aY ?_;refine yK (us:=[]) (vs:=[ptr g]) rfl rfl rfl ?_;refine bd (λf h=>HR f b _ c (k.ext h.ext) ⟨n,j.le⟩ _ cL [ptr g] (j_ bs) (λi l=>by have:=CC bs i;omega) (λp m i l=>Qf p g b bs c j ((k.ext h.ext).ext m) (HS (h.keep m) Has.head) i l) d e) ?_;refine aI ?_;exact λt q=>⟨rfl,q.ext⟩
def mZ(bs:List Bool)(b c:Nat):List Bool:=(List.range bs.length).map λa=>if b<=a/\a<c then false else cu bs a
def qB(bs:List Bool)(a b:Nat): (mZ bs a b).length=bs.length:=by simp[mZ]
def xe(bs:List Bool)(a b y:Nat)(c:y<bs.length):cu (mZ bs a b) y=if a<=y/\y<b then false else cu bs y:=by
 unfold mZ;rw[cu,fY,fw,uj c];rfl
def Qh(bs:List Bool)(a:Nat):mZ bs a a=bs:=by
 refine u5 (qB _ _ _) λc b=>?_
 rw[qB] at b
 rw[xe _ _ _ _ b,ai aa]
def Qi{bs:List Bool}(f:c<=k)(g:k<bs.length):oO (mZ bs c k) (k:Int) false=mZ bs c (k+1):=by
 refine u5 (by rw[oP,qB,qB]) λb a=>?_
 rw[oP,qB] at a
 rw[zw _ _ _ _ (by rw[qB];exact a),xe _ _ _ _ a,xe _ _ _ _ a];by_cases e:k=b
 subst e;rw[aB rfl,aB aa]
 rw[ai aa];by_cases d:c<=b/\b<k
 rw[aB d,aB aa];rw[ai d,ai aa]
def m5(bs:List Bool)(b c:Nat):List Bool:=(List.range b).map λa=>if a<bs.length then cu bs a else decide (a<c) && decide (a%8=0)
def oR(bs:List Bool)(n a:Nat): (m5 bs n a).length=n:=by simp[m5]
def u6(bs:List Bool)(b c a:Nat)(d:a<b):cu (m5 bs b c) a=if a<bs.length then cu bs a else decide (a<c) && decide (a%8=0):=by
 unfold m5;rw[cu,fY,fw,uj d];rfl
def Qj{bs:List Bool}{x:Nat}(f:bs.length<=x)(g:x<c):m5 bs c (x+1)=if x%8=0 then oO (m5 bs c x) (x:Int) true else m5 bs c x:=by
 split
 rename_i d;refine u5 (by rw[oP,oR,oR]) λa b=>?_
 rw[oR] at b
 rw[zw _ _ _ _ (by rw[oR];exact b),u6 _ _ _ _ b,u6 _ _ _ _ b];by_cases e:x=a
 subst e;rw[aB rfl,ai aa];simp[d]
 rw[ai (show ¬(x:Int)=(a:Int) by omega),show decide (a<x+1)=decide (a<x) from iK.2 aa];rename_i d;refine u5 (by rw[oR,oR]) λa b=>?_
 rw[oR] at b
 rw[u6 _ _ _ _ b,u6 _ _ _ _ b];by_cases e:x=a
 subst e;rw[ai aa,ai aa];simp[d]
 rw[show decide (a<x+1)=decide (a<x) from iK.2 aa]
def Qk{bs:List Bool}{n:Nat}(d:n<=c):m5 bs n c=kO bs n:=by
 refine u5 (by rw[oR,tn]) λb a=>?_
 rw[oR] at a
 rw[u6 _ _ _ _ a,PW _ _ _ a,show decide (b<c)=true from bI aa];simp
def Ql{bs:List Bool}{n:Nat}(e:bj g (mZ bs n c))(j:bs.length<=c)(f:n<=64*g.length):bj g (m5 bs n bs.length):=by
 have h:=e.cut n f (λa b=>by
  rcases fd a bs.length with ae | ae
  rw[xe _ _ _ _ ae,aB aa];exact rW<|by rw[qB];exact ae)
 have i: (List.range n).map (cu<|mZ bs n c)=m5 bs n bs.length:=by
  refine u5 (by simp[m5]) λa b=>?_
  have d:a<n:=by simpa using b
  rw[u6 _ _ _ _ d,cu,fY,fw,uj d];show cu (mZ bs n c) a=_
  rcases fd a bs.length with ae | ae
  rw[xe _ _ _ _ ae,ai aa,aB ae];rw[rW (by rw[qB];exact ae),ai aa,bJ aa];rfl
 exact i▸h
def tc(bs:List Bool)(g:gi)(q:jk bs g)(B: (fz b bs.length g).pred a)(D: (fz b bs.length g).cT.Nodup)(d:Nat)(O:2<=d/\d<=1000):
 ay 167 [ptr b,ad (d:Int)] a (mP (λ_=>Value.int .i64 0) (fz b bs.length g) (fz b d ·) (jk (kO bs d) ·) a):=by
 have P:=q.le
 have Q:=ih.of B q.len
 refine calls (n:=61) func167 rfl ntmps167 rfl ?_;refine dh (H':=ag a (fz b bs.length g).cT [fz b bs.length g]) (cZ ?_) (Sub.refl _) λh E=>ag.sV E B D;refine bF (wS · d)<|aI ?_;refine ff rfl ((by rw[bI (show 2<=(d:Int)/\(d:Int)<=1000 by omega)];rfl)) ?_;refine aU ?_;refine bb bY rfl rfl (λf e=>(ih.of (e.has Has.head) q.len).ce)<|bP ?_;refine cd (ι:=Nat × gi) (λc=>[(0,ptr b),(1,ad (d:Int)),(5,ad (bs.length:Int)),(6,ad (c.1 :Int))]) (λc=>ag a (fz b bs.length g).cT [fz b bs.length c.2]) (λc=>d<=c.1/\c.1<=1000+d/\jk (mZ bs d c.1) c.2) (λc=>1000+d - c.1) ?_ ?_;exact λa k=>⟨(d,g),⟨cC _,by dsimp only;omega,by rw[Qh];exact q⟩,(da rfl rfl rfl rfl),k⟩
 rintro⟨h,j⟩ ⟨m,u,i⟩;dsimp only at m u i ⊢
 refine (aE) (λF=>?_) λF=>aU ?_;have n:=λf v w=>HP f b (mZ bs d h) j i v w (h:Int) aa
 rw[qB,Qi m aa] at n
 refine aU ?_;refine BW (λj=>[fz b bs.length j]) (λ_=>bC.head) (λf e=>n f (e.has Has.head)<|by simpa [aK] using e.nodup) λx y=>?_;refine aY ?_;exact bv (h+1,x) ⟨by dsimp only;omega,by dsimp only;omega,y⟩ bL b5 λf e=>e;obtain⟨r,l,s,o⟩:=j;have C:=i.len
 have p:=i.m16
 dsimp only at C p
 refine y1 bH.head ?_;refine cd (ι:=Value × Nat × List Nat) (λc=>[(0,ptr b),(1,ad (d:Int)),(5,ad (bs.length:Int))]) (λc=>ag a (fz b bs.length g).cT [aG b [c.1,ad (bs.length:Int)] 271,own 63 1 c.1 c.2.1<|ka.all c.2.2]) (λc=>c.2.2.length=c.2.1/\c.2.1<=16/\bj c.2.2 (mZ bs d h)) (λc=>17 - c.2.1) ?_ ?_;exact λa k=>⟨(.slice r l s,l,o),⟨C,p,i.px⟩,(ed rfl rfl rfl),k⟩
 rintro⟨R,l,o⟩ ⟨z,p,A⟩;dsimp only at z p A ⊢
 refine jd (Has.tail Has.head) λr s G S T _ U=>?_;subst G;refine aY ?_;refine mD rfl rfl rfl (wrap64 aa aa) ?_;refine (aE) (λH=>be ?_) λH=>?_;intro V W X;refine hW s6 rfl rfl rfl bx (λ_=>by exact fs) rfl (jE rfl) (by simp only[maxLen];omega) aa λY Z=>?_;refine aA ?_;refine kA (Has.tail Has.head) λI J K _ _ _ _=>?_;subst K;refine ap ?_;refine bv (.slice I (l+1) J,l+1,o++[0]) ⟨by simp[z],by dsimp only;omega,A.oG⟩ bL (ed rfl rfl rfl) λf e=>?_;dsimp only;rw[b1.iP];exact e;have L:=Ql A aa aa
 refine nI ?_;refine dh (H':=ag a (fz b bs.length g).cT [fz b d ⟨r,l,s,o⟩]) ?_ (Sub.refl _) λf e=>e.both bH.head bH.head;refine cd (ι:=Nat × gi) (λc=>[(0,ptr b),(1,ad (d:Int)),(7,ad (c.1 :Int))]) (λc=>ag a (fz b bs.length g).cT [fz b d c.2]) (λc=>bs.length<=c.1/\c.1<=1000+bs.length/\jk (m5 bs d c.1) c.2) (λc=>1000+bs.length - c.1) ?_ ?_;exact λa k=>⟨(bs.length,⟨r,l,s,o⟩),⟨cC _,by dsimp only;omega,⟨L,by rw[oR];omega,z,p⟩⟩,(ed rfl rfl rfl),k⟩
 rintro⟨h,j⟩ ⟨m,u,i⟩;dsimp only at m u i ⊢
 refine (aE) (λM=>?_) λM=>b6 ?_;have t:=Qj (bs:=bs) m (show h<d by omega)
 refine aU ?_;refine pd rfl rfl rfl aa aa ?_;refine (aE) (λN=>?_) λN=>?_;rw[aB aa] at t
 have n:=λf v w=>HO f b (m5 bs d h) j i v w (h:Int) aa
 rw[oR] at n
 refine ap ?_;refine BW (λj=>[fz b d j]) (λ_=>bC.head) (λf e=>n f (e.has Has.head)<|by simpa [aK] using e.nodup) λx y=>?_;refine aY ?_;exact bv (h+1,x) ⟨by dsimp only;omega,by dsimp only;omega,by dsimp only;rw[t];exact y⟩ bL b5 λf e=>e;rw[ai aa] at t
 refine aY ?_;exact bv (h+1,j) ⟨by dsimp only;omega,by dsimp only;omega,by dsimp only;rw[t];exact i⟩ bL b5 λf e=>e;intro Za k;rw[Qk aa] at i
 exact mP.of j i k
def Qm:jk [] ⟨none,0,0,[]⟩:=⟨⟨by simp,by simp,λa=>by simp[nQ,cu]⟩,by simp,rfl,by simp⟩
def u7(h:2<=b/\b<=1000):
 ay 102 [ad (b:Int)] a (gr (λc:Nat × gi=>Value.tuple #[ptr c.1,z0]) (λc=>fz c.1 b c.2) (λc=>jk (kO [] b) c.2) a):=by
 refine ba func102 ntmps102 ?_;refine be ?_;refine bF (wS · b)<|ap ?_;refine ff rfl ((by rw[bI (show 2<=(b:Int)/\(b:Int)<=1000 by omega)];rfl)) ?_;refine aH ?_;intro d k l;refine aU ?_;refine iL (H':=ag a [] [fz d 0 ⟨none,0,0,[]⟩]) (BW (λf=>[fz d b f]) (λ_=>bC.head) (λg e=>tc g d [] _ Qm (e.has Has.head) (by simpa [aK] using e.nodup) b h) λf i=>?_) (Sub.refl _) λg e=>(e.Bv 63 1).both (bH.tail bH.head) bH.head;refine bP ?_;exact λm j=>gr.of (d,f) i j
end dw
structure gE where
 gj:Int
 s1:Int
 s2:Int
 lf:Int
 use:Int
 lG:Int
abbrev gE.enc(a:gE):List Value:=[ad a.gj,ad a.s1,ad a.s2,ad a.lf,ad a.use,ad a.lG]
structure hN where
 at_:dH
 aQ:gE
 put:Bool
 wrap:Bool
 home:Bool
abbrev hN.enc(a:hN):List Value:=[ad a.at_.cM,ad a.at_.fn,ad a.at_.aq,ad a.at_.aR,ad a.at_.bB,ad a.aQ.gj,ad a.aQ.s1,ad a.aQ.s2,ad a.aQ.lf,ad a.aQ.use,ad a.aQ.lG,.bool a.put,.bool a.wrap,.bool a.home]
structure xf where
 g:Nat
 bs:List Bool
 i:dw.gi
abbrev xf.aQ(a:xf):Chunk:=dw.fz a.g a.bs.length a.i
structure bA where
 g:Nat
 bk:hN
 az:bQ
 st:xf
 y:Int
 x:Int
 top:Int
 dr:Int
 hb:hN
 ma:Int
 mb:Int
 has:Bool
 last:Int
abbrev ga(a:bA):List Value:=[ad a.bk.at_.cM,ad a.bk.at_.fn,ad a.bk.at_.aq,ad a.bk.at_.aR,ad a.bk.at_.bB,ad a.bk.aQ.gj,ad a.bk.aQ.s1,ad a.bk.aQ.s2,ad a.bk.aQ.lf,ad a.bk.aQ.use,ad a.bk.aQ.lG,.bool a.bk.put,.bool a.bk.wrap,.bool a.bk.home,
 ptr a.az.g,ptr a.st.g,ad a.y,ad a.x,ad a.top,ad a.dr,
 ad a.hb.at_.cM,ad a.hb.at_.fn,ad a.hb.at_.aq,ad a.hb.at_.aR,ad a.hb.at_.bB,ad a.hb.aQ.gj,ad a.hb.aQ.s1,ad a.hb.aQ.s2,ad a.hb.aQ.lf,ad a.hb.aQ.use,ad a.hb.aQ.lG,.bool a.hb.put,.bool a.hb.wrap,.bool a.hb.home,ad a.ma,ad a.mb,
 .bool a.has,.int .i32 a.last]
abbrev bA.aq(a:bA):Chunk:=aG a.g (ga a) 149
abbrev a8(a:bA):List Chunk:=[a.aq,a.az.aq,aZ<|cP a.az.r,a.az.s.aD,a.az.s.cw,a.az.bu.aD,a.st.aQ]
structure a1 where
 bk:hN
 bz:b8
 y:Int
 x:Int
 top:Int
 dr:Int
 hb:hN
 ma:Int
 mb:Int
 has:Bool
 last:Int
 zA:List Bool
def bA.abs(a:bA):a1:=⟨a.bk,a.az.abs,a.y,a.x,a.top,a.dr,a.hb,a.ma,a.mb,a.has,a.last,a.st.bs⟩
abbrev a1.rows(a:a1):Int:=a.bz.cY.length
abbrev a1.al(a:a1):Int:=a.bz.al
structure eX (s:a1):Prop where
 bz:dF s.bz
 y:0<=s.y/\s.y<s.rows
 x:0<=s.x/\s.x<=s.al
 top:0<=s.top/\s.top<=s.dr/\s.dr<s.rows
structure eM (s:bA):Prop where
 r:dx s.az.r
 st:dw.jk s.st.bs s.st.i
 n: (s.st.bs.length:Int)=s.az.al
structure jl (s:bA) (q:a1) (z:bA):Prop where
 g:z.g=s.g
 az:z.az.g=s.az.g
 st:z.st.g=s.st.g
 wf:eM z
 abs:z.abs=q
def fU :Int:=max n<|min i o
def gb(a:a1):Int:=min a.x<|a.al - 1
def hi(a:a1)(b:b8->b8):a1:={ a with bz:=b a.bz }
def aq(a:a1):Int:=a.bk.at_.aq
def aR(a:a1):Int:=a.bk.at_.aR
def jm(a:a1):a1 × Bool:=
 let a:={ a with x:=gb a }
 if a.y=a.dr then (hi a λb=>iE b a.top a.dr 1 (mY · · · (aq a) (aR a)),true)
 else if a.y<a.rows - 1 then ({ a with y:=a.y+1 },true) else (a,false)
def kb(a:a1)(b:Int):a1:=
 if a.x+b<=a.al then a else
 if a.bk.wrap=false then { a with x:=a.al - b } else
 let a:=if a.x<a.al then hi a (w7 · a.y) else a
 let c:=jm a
 let a:={ c.1 with x:=0 }
 if c.2=true then hi a (iS · a.y true) else a
def rX(a:a1)(c:Int):a1:=
 let b:=cO c
 let a:=if b=0 then hi a (uZ · a.y (a.x - 1) c) else a
 if b<1 then a else
 let a:=kb a b
 let a:=if a.bk.put=true then hi a (u0 · a.y a.x b (aq a) (aR a)) else a
 let a:=hi a (th · a.y a.x c a.bk.at_)
 { a with x:=a.x+b,last:=c }
def kc(b:bA)(c:b.aq.pred a):ay 17 [ptr b.g] a (Pure (ptr b.az.g) a):=by
 refine ba func17 ntmps17 ?_;refine gR ?_;refine bb NS rfl rfl (λf d=>d.cc c (by (simp;done)) rfl) ?_;refine aI ?_;exact λh e=>⟨rfl,e.ext⟩
def Qn(b:bA)(e:b.aq.pred a)(f:b.az.aq.pred a):ay 266 [ptr b.g] a (Pure (ad (b.az.s.l.length:Int)) a):=by
 refine ba func266 ntmps266 ?_;refine aY ?_;refine bd (λc d=>kc c b<|d.ew e au)<|bd (λc d=>oK c b.az<|d.ew f au)<|aI ?_;exact λi h=>⟨rfl,h.ext⟩
def HT(b:bA)(e:b.aq.pred a)(f:b.az.aq.pred a):ay 268 [ptr b.g] a (Pure (ad b.az.al) a):=by
 refine ba func268 ntmps268 ?_;refine aY ?_;refine bd (λc d=>kc c b<|d.ew e au)<|bd (λc d=>zf c b.az<|d.ew f au)<|aI ?_;exact λi h=>⟨rfl,h.ext⟩
def m6(b:bA)(c:b.aq.pred a):ay 344 [ptr b.g] a (Pure (.agg [ad b.bk.at_.aq,ad b.bk.at_.aR].toArray) a):=by
 refine ba func344 ntmps344 ?_;refine ap ?_;intro j k l;refine a6 ?_;refine cE ib rfl rfl rfl (λm d e f h=>d.kK (sz:=2) c (by (simp;done)) rfl e f h) ?_;refine aI ?_;exact λn i=>⟨rfl,i.ext⟩
def kQ(b:bA)(c:b.aq.pred a)(e:b.az.aq.pred a)(k:2<=b.az.al/\b.az.al<=1000):ay 252 [ptr b.g] a (Pure (ad<|min b.x<|b.az.al - 1) a):=by
 refine ba func252 ntmps252 ?_;refine aH ?_;refine bN [0,1,2,3,4] 1 [[(5,false,[6,7,8])]] ?_;refine ap ?_;refine aO rfl (λl f=>(bb bY rfl rfl (λm h=>by subst h;exact f.cc c (by (simp;done)) rfl) aJ)) ?_;refine ap ?_;refine bd (λi d=>HT i b (d.ew c au)<|d.ew e au)<|a6 ?_;exact λn j=>⟨rfl,j.ext⟩
def py :ay 361 [ad i,ad n,ad o] a (Pure (ad<|fU i n o) a):=by
 refine ba func361 ntmps361 ?_;refine ft ?_;exact λc b=>⟨rfl,b.ext⟩
def e2(a:bA)(b:Value)(c:a1)(d:World):Ending->World->Prop:=aX (λ_:bA=>b) (a8 a) a8 (jl a c) d
structure ds (k:Nat) (s q:a1):Prop where
 wf:eX s->eX q
 rows:q.bz.cY.length=s.bz.cY.length
 al:q.bz.al=s.bz.al
 room:q.bz.room=s.bz.room
 bu:q.bz.g_.length<=s.bz.g_.length+k
def ds.refl(s:a1):ds 0 s s:=⟨id,rfl,rfl,rfl,aa⟩
variable {h:a1}
def ds.trans{a b:Nat}{e r:a1}(c:ds a h e)(d:ds b e r):ds (a+b) h r:=⟨λf=>d.wf<|c.wf f,d.rows.trans c.rows,d.al.trans c.al,d.room.trans c.room,by have:=c.bu;have:=d.bu;omega⟩
def ds.mono{q:a1}(a:ds c h q)(b:c<=k):ds k h q:=⟨a.wf,a.rows,a.al,a.room,by have:=a.bu;omega⟩
def jn(a:a1){f:b8->b8}(b:Kept c a.bz (f a.bz)):ds c a (hi a f):=
 ⟨λd=>⟨b.wf d.bz,by show 0<=a.y/\a.y<((f a.bz).cY.length:Int);rw[b.rows];exact d.y,by show 0<=a.x/\a.x<=(f a.bz).al;rw[b.al];exact d.x,by show 0<=a.top/\a.top<=a.dr/\a.dr<((f a.bz).cY.length:Int);rw[b.rows];exact d.top⟩,b.rows,b.al,b.room,b.bu⟩
def qC(a:a1){x:Int}(c:eX a->0<=x/\x<=a.al):ds 0 a { a with x:=x }:=⟨λb=>⟨b.bz,b.y,c b,b.top⟩,rfl,rfl,rfl,by show a.bz.g_.length<=_;omega⟩
def HU(a:a1){y:Int}(c:eX a->0<=y/\y<a.rows):ds 0 a { a with y:=y }:=⟨λb=>⟨b.bz,c b,b.x,b.top⟩,rfl,rfl,rfl,by show a.bz.g_.length<=_;omega⟩
def zB(a:eX h):0<=gb h/\gb h<=h.al:=by
 have b:=a.bz.al
 have c:=a.x
 simp only[gb,a1.al] at *
 omega
def zC(d: ∀a b c,b<a.cY.length->c<a.cY.length->Kept 2 a (u a b c)):Kept 2 t (iE t i n 1 u):=by
 unfold iE;split
 rename_i e;obtain⟨⟨f,g⟩,⟨h,j⟩,k⟩:=e;exact (w9 (λa l=>d a i.toNat n.toNat aa aa) _).mono aa;exact (Kept.refl t).mono aa
def u9(a:a1):ds 2 a (jm a).1:=by
 have b:ds 0 a { a with x:=gb a }:=qC a (zB ·)
 unfold jm;dsimp only;split
 exact (b.trans<|jn { a with x:=gb a } (f:=λc=>iE c a.top a.dr 1 (mY · · · (aq a) (aR a)))<|zC a.bz _ _ λd h i e f=>w8 d e f _ _).mono aa;split
 exact (b.trans<|HU _ λg=>by have:=g.y;simp only[a1.rows] at *;omega).mono aa;exact b.mono aa
variable {f:bA}
def eX.nums(g:eX f.abs): (1<=(f.az.s.l.length:Int)/\(f.az.s.l.length:Int)<=1000)/\(2<=f.az.al/\f.az.al<=1000)/\(0<=f.y/\f.y<f.az.s.l.length)/\(0<=f.x/\f.x<=f.az.al)/\(0<=f.top/\f.top<=f.dr/\f.dr<f.az.s.l.length):=by
 have h: (b2 f.az.s.l).length=f.az.s.l.length:=by simp[b2]
 obtain⟨⟨c,d,-,-,-⟩,a,e,b⟩:=g;simp only[bA.abs,bQ.abs,a1.rows,a1.al] at c d a e b
 rw[h] at d a b
 exact⟨aa,c,a,e,b⟩
def mc(a:bA)(b:bQ)(c:a.g=f.g/\a.az.g=f.az.g/\a.st.g=f.st.g)(i:eM a)(o:b.g=a.az.g/\dx b.r/\b.abs=v)(t:v.al=a.az.al)(u: { a.abs with bz:=v } = h)(w:q=m)
 (x:ag d (aK<|a8 f) e l) (y:aP e [a.aq,b.aq,aZ<|cP b.r,b.s.aD,b.s.cw,b.bu.aD,a.st.aQ] p):e2 f m h d (.returned q) l:=by
 obtain⟨j,z,k⟩:=o;refine aX.cf { a with az:=b } ⟨c.1,j.trans c.2.1,c.2.2,⟨z,i.st,?_⟩,?_⟩ w ?_;have:b.al=v.al:=by rw[<-k];rfl
 rw[i.n,<-t,<-this];rw[<-u];simp only[bA.abs,k]
 have A:=x.aF y
 simpa only[a8,bA.aq,ga,j] using A
def gk(a:bA)(b:a.g=f.g/\a.az.g=f.az.g/\a.st.g=f.st.g)(c:eM a)(i:a.abs=h)(j:q=m)
 (k:ag d (aK<|a8 f) e l) (n:aP e (a8 a) p):e2 f m h d (.returned q) l:=aX.cf a ⟨b.1,b.2.1,b.2.2,c,i⟩ j<|k.aF n
abbrev iT(a:bA):bA:={ a with x:=min a.x (a.az.al - 1) }
def pz(b:bA)(c:bQ)(d:b.az=c)(e:b.aq.pred a)(f:b.az.aq.pred a):ay 266 [ptr b.g] a (Pure (ad (c.s.l.length:Int)) a):=by subst d;exact Qn a b e f
def lH(b:bA)(c:bQ)(d:b.az=c)(e:b.aq.pred a)(f:b.az.aq.pred a):ay 268 [ptr b.g] a (Pure (ad c.al) a):=by subst d;exact HT a b e f
def HV(a:f.y=f.dr):jm f.abs=({ (iT f).abs with bz:=iE f.az.abs f.top f.dr 1 (mY · · · f.bk.at_.aq f.bk.at_.aR) },true):=by
 unfold jm;exact aB a
def nR(a:bA):a.abs.bz.cY.length=a.az.s.l.length:=by simp[bA.abs,bQ.abs,b2]
def HW(a: ¬f.y=f.dr)(b:f.y<(f.az.s.l.length:Int) - 1):jm f.abs=({ iT f with y:=f.y+1 }.abs,true):=by
 unfold jm;exact (ai a).trans<|aB (by show f.y<(f.abs.bz.cY.length:Int) - 1;rw[nR];exact b)
def HX(a: ¬f.y=f.dr)(b: ¬f.y<(f.az.s.l.length:Int) - 1):jm f.abs=((iT f).abs,false):=by
 unfold jm;exact (ai a).trans<|ai (by show ¬f.y<(f.abs.bz.cY.length:Int) - 1;rw[nR];exact b)
def HY(b:bA)(j:bc a (a8 b))(c:eM b)(f:eX b.abs)(k:b.az.bu.l.length<=1530000000000):
 ay 255 [ptr b.g] a (e2 b (.bool (jm b.abs).2) (jm b.abs).1 a):=by
 obtain⟨t,m,u,v,h⟩:=f.nums;refine bX func255 ntmps255 j ?_;refine a6 ?_;refine fh (kQ · b · · m)<|aY ?_;refine bN [0,1,2,3,4,5,6,7,8,9] 0 [[]] ?_;refine (aE) (λd=>?_) λd=>av ?_;refine bN [0,1,2,3,4,5,6,7,8,9,10,11,12] 2 [[(13,false,[]),(14,true,[])]] ?_;refine dO ?_;refine cU (m6 · (iT b) ·)<|ap ?_;refine dE (Hs · b.az · c.r f.bz k b.top b.dr 1 b.bk.at_.aq b.bk.at_.aR) λi32 o=>?_;refine b6 ?_;exact λi e=>mc (iT b) i32 ⟨rfl,rfl,rfl⟩ ⟨c.r,c.st,c.n⟩ o (zC b.az.abs b.top b.dr λp w x q h=>w8 p q h b.bk.at_.aq b.bk.at_.aR).al (by rw[HV d]) (by rw[HV d]) e ah
 refine bN [0,1,2,3,4] 1 [[(5,false,[6,7,8])]] ?_;refine aU ?_;refine fh (pz · (iT b) b.az rfl · ·) ?_;refine (aE) (λs=>fT ?_) λs=>a6 ?_;exact λi e=>gk { iT b with y:=b.y+1 } ⟨rfl,rfl,rfl⟩ ⟨c.r,c.st,c.n⟩ (by rw[HW d aa]) (by rw[HW d aa]) e ah
 exact λi e=>gk (iT b) ⟨rfl,rfl,rfl⟩ ⟨c.r,c.st,c.n⟩ (by rw[HX d aa]) (by rw[HX d aa]) e ah
