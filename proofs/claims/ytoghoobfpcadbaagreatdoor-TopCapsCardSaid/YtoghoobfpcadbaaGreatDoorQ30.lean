/- part 30 of the proof -/
import Derived.Test.YtoghoobfpcadbaaGreatDoorQ29
namespace Go.Proofs.YtoghoobfpcadbaaGreatDoor.Mq
open Go Go.RowKit Go.Proofs Tryz
structure mg [Inhabited bN] (X:Chunk) (e:dV):Prop where
 pf:vG X
 rd: ∀w,X.pred w→cr.ed w (· ∈X.cm) e.nums.A e.nums.n e.nums.c e.nums.gs
 ok:l7 e
def mh (s:List UInt8):Int:=if s=[40] then 0 else if s=[41] then 1 else if s=[42] then 2 else if s=[43] then 3 else -1
theorem Vl (s:List UInt8):mh s=0∨mh s=1∨mh s=2∨mh s=3∨mh s= -1:=by
 unfold mh;repeat' split
 all_goals omega
theorem vJ (w:World) (s:List UInt8):Calls prog 238 [.string (bs s)].toArray w (Pure (.int .i64 (mh s)) w):=by
 refine aW func238 ntmps238 ?_;refine e4 ?_;refine aj (λc=>?_) (λc=>?_);refine aJ ?_;intro b a;exact⟨by unfold mh;simp_all,a.ext⟩;refine al ?_;refine aj (λaK=>?_) (λaK=>?_);refine aJ ?_;intro b a;exact⟨by unfold mh;simp_all,a.ext⟩;refine al ?_;refine aj (λd=>?_) (λd=>?_);refine aJ ?_;intro b a;exact⟨by unfold mh;simp_all,a.ext⟩;refine al ?_;refine aj (λe=>?_) (λe=>?_);refine aJ ?_;intro b a;exact⟨by unfold mh;simp_all,a.ext⟩;refine aR ?_;intro b a;exact⟨by unfold mh;simp_all,a.ext⟩
theorem yD [Inhabited bN] (w:World) (c:fV) (s:List UInt8) (b:Int):Calls prog 169 [.agg c.enc.toArray,.string (bs s),.int .u8 b].toArray w (cf (λc:fV=> .agg c.enc.toArray) (λ_=>True) w):=by
 refine aW func169 ntmps169 ?_;rcases Vl s with ai | ai | ai | ai | ai
 refine ah ?_;intro f g i;refine ar ?_;intro j k l;refine ax ?_;refine ao rfl uD rfl (λe m=>(by have h:=vJ e s;rw[ai] at h;exact h)) ?_;refine aJ ?_;refine aX 12 rfl (λn=>?_) (λn=>?_);have E:=a1 n
 refine al ?_;refine aX 15 rfl (λaK=>?_) (λaK=>?_);have F:=a1 aK
 refine et ?_;refine dm rfl rfl underlying5 underlying3 rfl ?_;refine ar ?_;refine dt (q:=0) underlying89 jA rfl rfl rfl bb aa ?_;refine bp ?_;intro d a;exact cf.of { c with fv:=IntKind.i64.wrap b } aT rfl a.ext;have F:=bc aK
 refine aL ?_;refine aX 19 rfl (λo=>?_) (λo=>?_);have G:=a1 o
 refine bp ?_;refine dm rfl rfl underlying5 underlying3 rfl ?_;refine ar ?_;refine dt (q:=0) underlying89 jA rfl rfl rfl bb aa ?_;refine bp ?_;intro d a;exact cf.of { c with fv:=IntKind.i64.wrap b } aT rfl a.ext;have G:=bc o
 refine aJ ?_;refine aj (λH=>?_) (λH=>?_);refine ah ?_;refine dm rfl rfl underlying5 underlying3 rfl ?_;refine ar ?_;refine dt (q:=0) underlying89 jA rfl rfl rfl bb aa ?_;refine bp ?_;intro d a;exact cf.of { c with fv:=IntKind.i64.wrap b } aT rfl a.ext;refine aR ?_;intro d a;exact cf.of c aT rfl a.ext;have E:=bc n
 refine jC ?_;intro d a;exact cf.of c aT rfl a.ext;refine ah ?_;intro f g i;refine ar ?_;intro j k l;refine ax ?_;refine ao rfl uD rfl (λe m=>(by have h:=vJ e s;rw[ai] at h;exact h)) ?_;refine aJ ?_;refine aX 12 rfl (λp=>?_) (λp=>?_);have I:=a1 p
 refine al ?_;refine aX 15 rfl (λr=>?_) (λr=>?_);have J:=a1 r
 refine et ?_;refine dm rfl rfl underlying5 underlying3 rfl ?_;refine ar ?_;refine dt (q:=1) underlying89 jA rfl rfl rfl bb aa ?_;refine bp ?_;intro d a;exact cf.of { c with s1:=IntKind.i64.wrap b } aT rfl a.ext;have J:=bc r
 refine aL ?_;refine aX 19 rfl (λt=>?_) (λt=>?_);have K:=a1 t
 refine bp ?_;refine dm rfl rfl underlying5 underlying3 rfl ?_;refine ar ?_;refine dt (q:=1) underlying89 jA rfl rfl rfl bb aa ?_;refine bp ?_;intro d a;exact cf.of { c with s1:=IntKind.i64.wrap b } aT rfl a.ext;have K:=bc t
 refine aJ ?_;refine aj (λL=>?_) (λL=>?_);refine ah ?_;refine dm rfl rfl underlying5 underlying3 rfl ?_;refine ar ?_;refine dt (q:=1) underlying89 jA rfl rfl rfl bb aa ?_;refine bp ?_;intro d a;exact cf.of { c with s1:=IntKind.i64.wrap b } aT rfl a.ext;refine aR ?_;intro d a;exact cf.of c aT rfl a.ext;have I:=bc p
 refine jC ?_;intro d a;exact cf.of c aT rfl a.ext;refine ah ?_;intro f g i;refine ar ?_;intro j k l;refine ax ?_;refine ao rfl uD rfl (λe m=>(by have h:=vJ e s;rw[ai] at h;exact h)) ?_;refine aJ ?_;refine aX 12 rfl (λu=>?_) (λu=>?_);have M:=a1 u
 refine al ?_;refine aX 15 rfl (λv=>?_) (λv=>?_);have N:=a1 v
 refine et ?_;refine dm rfl rfl underlying5 underlying3 rfl ?_;refine ar ?_;refine dt (q:=2) underlying89 jA rfl rfl rfl bb aa ?_;refine bp ?_;intro d a;exact cf.of { c with s2:=IntKind.i64.wrap b } aT rfl a.ext;have N:=bc v
 refine aL ?_;refine aX 19 rfl (λx=>?_) (λx=>?_);have O:=a1 x
 refine bp ?_;refine dm rfl rfl underlying5 underlying3 rfl ?_;refine ar ?_;refine dt (q:=2) underlying89 jA rfl rfl rfl bb aa ?_;refine bp ?_;intro d a;exact cf.of { c with s2:=IntKind.i64.wrap b } aT rfl a.ext;have O:=bc x
 refine aJ ?_;refine aj (λP=>?_) (λP=>?_);refine ah ?_;refine dm rfl rfl underlying5 underlying3 rfl ?_;refine ar ?_;refine dt (q:=2) underlying89 jA rfl rfl rfl bb aa ?_;refine bp ?_;intro d a;exact cf.of { c with s2:=IntKind.i64.wrap b } aT rfl a.ext;refine aR ?_;intro d a;exact cf.of c aT rfl a.ext;have M:=bc u
 refine jC ?_;intro d a;exact cf.of c aT rfl a.ext;refine ah ?_;intro f g i;refine ar ?_;intro j k l;refine ax ?_;refine ao rfl uD rfl (λe m=>(by have h:=vJ e s;rw[ai] at h;exact h)) ?_;refine aJ ?_;refine aX 12 rfl (λy=>?_) (λy=>?_);have Q:=a1 y
 refine al ?_;refine aX 15 rfl (λz=>?_) (λz=>?_);have R:=a1 z
 refine et ?_;refine dm rfl rfl underlying5 underlying3 rfl ?_;refine ar ?_;refine dt (q:=3) underlying89 jA rfl rfl rfl bb aa ?_;refine bp ?_;intro d a;exact cf.of { c with ln:=IntKind.i64.wrap b } aT rfl a.ext;have R:=bc z
 refine aL ?_;refine aX 19 rfl (λA=>?_) (λA=>?_);have S:=a1 A
 refine bp ?_;refine dm rfl rfl underlying5 underlying3 rfl ?_;refine ar ?_;refine dt (q:=3) underlying89 jA rfl rfl rfl bb aa ?_;refine bp ?_;intro d a;exact cf.of { c with ln:=IntKind.i64.wrap b } aT rfl a.ext;have S:=bc A
 refine aJ ?_;refine aj (λT=>?_) (λT=>?_);refine ah ?_;refine dm rfl rfl underlying5 underlying3 rfl ?_;refine ar ?_;refine dt (q:=3) underlying89 jA rfl rfl rfl bb aa ?_;refine bp ?_;intro d a;exact cf.of { c with ln:=IntKind.i64.wrap b } aT rfl a.ext;refine aR ?_;intro d a;exact cf.of c aT rfl a.ext;have Q:=bc y
 refine jC ?_;intro d a;exact cf.of c aT rfl a.ext;refine ah ?_;intro f g i;refine ar ?_;intro j k l;refine ax ?_;refine ao rfl uD rfl (λe m=>(by have h:=vJ e s;rw[ai] at h;exact h)) ?_;refine aJ ?_;refine aX 12 rfl (λB=>?_) (λB=>?_);have U:=a1 B
 refine al ?_;refine aX 15 rfl (λC=>?_) (λC=>?_);have V:=a1 C
 refine et ?_;refine dm rfl rfl underlying5 underlying3 rfl ?_;refine ar ?_;refine dt (q:=0) underlying89 jA rfl rfl rfl aa aa ?_;refine bp ?_;intro d a;exact cf.of { c with fv:=IntKind.i64.wrap b } aT rfl a.ext;have V:=bc C
 refine aL ?_;refine aX 19 rfl (λD=>?_) (λD=>?_);have W:=a1 D
 refine bp ?_;refine dm rfl rfl underlying5 underlying3 rfl ?_;refine ar ?_;refine dt (q:=0) underlying89 jA rfl rfl rfl aa aa ?_;refine bp ?_;intro d a;exact cf.of { c with fv:=IntKind.i64.wrap b } aT rfl a.ext;have W:=bc D
 refine aJ ?_;refine aj (λX=>?_) (λX=>?_);refine ah ?_;refine dm rfl rfl underlying5 underlying3 rfl ?_;refine ar ?_;refine dt (q:=0) underlying89 jA rfl rfl rfl aa aa ?_;refine bp ?_;intro d a;exact cf.of { c with fv:=IntKind.i64.wrap b } aT rfl a.ext;refine aR ?_;intro d a;exact cf.of c aT rfl a.ext;have U:=bc B
 refine jC ?_;intro d a;exact cf.of c aT rfl a.ext
theorem Vm [Inhabited bN] (w:World) (g par:Nat) (X:Chunk) (T:bK) (u:a8 w (bz g par X T)) {e:dV} (v:mg X e) {R:Int} {m:Nat} (a:cp g R m T) (y:m≤900000000000):
 Calls prog 111 [ptr g,.agg e.enc.toArray].toArray w (hy g par X R (m+1000) (.tuple #[]) T w):=by
 have z:=v.pf
 refine bC func111 ntmps111 u ?_;refine ah ?_;intro E F G;refine ax ?_;refine ao rfl fc rfl (λb d=>fe b g par T (d.has bH)) ?_;refine dx ?_;refine aj (λA=>?_) (λA=>?_);refine ax ?_;refine gZ rfl Nf rfl (λb o=>Vj b g par X T o z a y e.byte) (λT a=>?_);refine ah ?_;intro f c;exact aN T (a.mono aa) c;refine aD ?_;refine aj (λaK=>?_) (λaK=>?_);have q:=aK
 refine aq ?_;refine eA rfl ((b5 q)) ?_;refine bF [0,1,4,5,6,7] 3 [[(2,false,[3]),(8,false,[]),(9,true,[])]] ?_;refine aL ?_;refine ao rfl ja rfl (λb d=>jp b T.am (d.eg (l:=aP T.am) cu Has.head)) ?_;refine ar ?_;refine aI rfl (λi j=>(j9 (t:=91) (off:=7) ab lN rfl rfl rfl aC)) ?_;refine aq ?_;refine aY (l0:=[]) aB.nil rfl wS rfl (λb _=>yD b ⟨_,_,_,_,_,_⟩ e.inter e.byte) (λc9 _=>?_);refine ah ?_;refine ek (k:=0) a bb rfl nh rfl (λb o x=>nT o a.am ⟨_,_,_,_,_,_⟩) (λT a ai h=>?_);refine ax ?_;intro f c;exact aN T (a.mono aa) c;have q:=aK
 refine al ?_;refine aj (λn=>?_) (λn=>?_);have r:=n
 refine aq ?_;refine eA rfl ((b5 r)) ?_;refine bF [0,1,4,5,6,7] 3 [[(2,false,[3]),(8,false,[]),(9,true,[])]] ?_;refine aL ?_;refine ao rfl ja rfl (λb d=>jp b T.am (d.eg (l:=aP T.am) cu Has.head)) ?_;refine ar ?_;refine aI rfl (λi j=>(j9 (t:=91) (off:=7) ab lN rfl rfl rfl aC)) ?_;refine aq ?_;refine aY (l0:=[]) aB.nil rfl wS rfl (λb _=>yD b ⟨_,_,_,_,_,_⟩ e.inter e.byte) (λc9 _=>?_);refine ah ?_;refine ek (k:=0) a bb rfl nh rfl (λb o x=>nT o a.am ⟨_,_,_,_,_,_⟩) (λT a ai h=>?_);refine ax ?_;intro f c;exact aN T (a.mono aa) c;have r:=n
 refine al ?_;refine aj (λp=>?_) (λp=>?_);have s:=p
 refine aq ?_;refine eA rfl ((b5 s)) ?_;refine bF [0,1,4,5,6,7] 3 [[(2,false,[3]),(8,false,[]),(9,true,[])]] ?_;refine aL ?_;refine ao rfl ja rfl (λb d=>jp b T.am (d.eg (l:=aP T.am) cu Has.head)) ?_;refine ar ?_;refine aI rfl (λi j=>(j9 (t:=91) (off:=7) ab lN rfl rfl rfl aC)) ?_;refine aq ?_;refine aY (l0:=[]) aB.nil rfl wS rfl (λb _=>yD b ⟨_,_,_,_,_,_⟩ e.inter e.byte) (λc9 _=>?_);refine ah ?_;refine ek (k:=0) a bb rfl nh rfl (λb o x=>nT o a.am ⟨_,_,_,_,_,_⟩) (λT a ai h=>?_);refine ax ?_;intro f c;exact aN T (a.mono aa) c;have s:=p
 refine ax ?_;refine aj (λB=>?_) (λB=>?_);refine bF [0,1,4,5,6,7] 3 [[(2,false,[3]),(8,false,[]),(9,true,[])]] ?_;refine aL ?_;refine ao rfl ja rfl (λb d=>jp b T.am (d.eg (l:=aP T.am) cu Has.head)) ?_;refine ar ?_;refine aI rfl (λi j=>(j9 (t:=91) (off:=7) ab lN rfl rfl rfl aC)) ?_;refine aq ?_;refine aY (l0:=[]) aB.nil rfl wS rfl (λb _=>yD b ⟨_,_,_,_,_,_⟩ e.inter e.byte) (λc9 _=>?_);refine ah ?_;refine ek (k:=0) a bb rfl nh rfl (λb o x=>nT o a.am ⟨_,_,_,_,_,_⟩) (λT a ai h=>?_);refine ax ?_;intro f c;exact aN T (a.mono aa) c;refine al ?_;refine aj (λC=>?_) (λC=>?_);refine aD ?_;refine aj (λD=>?_) (λD=>?_);refine aq ?_;refine ek (k:=0) a bb rfl Ng rfl (λb o x=>S9 b T.am o a.am.g a.am.ok) (λT a ai h=>?_);refine ah ?_;intro f c;exact aN T (a.mono aa) c;refine ah ?_;intro f c;exact aN T (a.mono aa) c;refine ah ?_;intro f c;exact aN T (a.mono aa) c
theorem cr.Vn (w:World) (F:Nat→Prop) (A:Option Addr) (n c:Nat) (gs:List (List Int)) (a:cr.ed w F A n c gs) (b:n≤1000000) (d: ∀g∈gs,g.length≤1000000) (i:Int):
 Calls prog 254 [.slice A n c,.int .i64 i].toArray w (λe w'=>e= .returned (.int .i64 (max 1 (cr.o0 gs i 1)))∧Ext [] w w'):=by
 refine aW func254 ntmps254 ?_;refine aJ ?_;refine ao rfl uC rfl (λw' f=>cr.Hr w' F A n c gs (a.ext f.ext av) b d i 1) ?_;refine al ?_;intro j h;exact⟨rfl,h.ext⟩
theorem I9 (gs:List (List Int)) (i u:Int) (d: -1≤u∧u≤65535): -1≤cr.o0 gs i u∧cr.o0 gs i u≤65535:=by
 have b:=HU gs
 have e: -1≤cr.mM (cr.fq gs) i∧cr.mM (cr.fq gs) i≤65535:=by
  unfold cr.mM;split
  unfold cr.vo;generalize a: (cr.fq gs).getD i.toNat []=g
  cases g with
  | nil=>simp
  | cons x t=>
   have c: (x::t)∈cr.fq gs:=by
    rw[←a,fB];cases h: (cr.fq gs)[i.toNat]? with
    | none=>rw[fB,h] at a;cases a
    | some y=>exact dc h
   exact (b.2 _ c).2.2 x List.mem_cons_self
  omega
 unfold cr.o0;split <;> omega
theorem o3.vx {x:kL} (h:o3 x): ∀g∈x.gs,g.length≤1000000:=λg a=>by have:=h.g g a;omega
theorem yE [Inhabited bN] (w:World) (F:Nat→Prop) (A:Option Addr) (n c:Nat) {x:kL} (a:cr.ed w F A n c x.gs) (b:o3 x) (i u:Int) (d: -1≤u∧u≤65535):
 Calls prog 171 [.slice A n c,.int .i64 i,.int .i64 u].toArray w (cf (λv:Int=> .int .i64 v) (λv=> -1≤v∧v≤65535) w):=
 (cr.Hr w F A n c x.gs a (by have:=a.len;have:=b.n;omega) b.vx i u).mono (λ_ _ ⟨e,f⟩=>by rw[e];exact cf.of _ (I9 x.gs i u d) rfl f)
theorem vK [Inhabited bN] (w:World) (F:Nat→Prop) (A:Option Addr) (n c:Nat) {x:kL} (a:cr.ed w F A n c x.gs) (b:o3 x) (i:Int):
 Calls prog 254 [.slice A n c,.int .i64 i].toArray w (cf (λv:Int=> .int .i64 v) (λv=>1≤v∧v≤65535) w):=
 (cr.Vn w F A n c x.gs a (by have:=a.len;have:=b.n;omega) b.vx i).mono (λ_ _ ⟨d,e⟩=>by rw[d];exact cf.of _ (by have:=I9 x.gs i 1 aZ;omega) rfl e)
def Cp {ι:Type} (Q:cq) (fr:ι→Fr) (fC:ι→World→Prop) (ok:ι→Prop):cq
 | .normal,l,w=> ∃i,ok i∧Sub l (fr i)∧fC i w
 | e,l,w=>Q e l w
theorem iv {ι:Type} {Q:cq} {fr:ι→Fr} {fC:ι→World→Prop} {ok:ι→Prop} {l:Fr} {H:World→Prop} (i:ι) (a:ok i) (b:Sub l (fr i)) (c: ∀w,H w→fC i w):dU (Cp Q fr fC ok) .normal l H:=λw d=>⟨i,a,b,c w d⟩
theorem Cq {ι:Type} {Q:cq} {fr:ι→Fr} {fC:ι→World→Prop} {ok:ι→Prop} {l:Fr} {H:World→Prop} (h:dU Q .ret l H):dU (Cp Q fr fC ok) .ret l H:=λw a=>h w a
theorem I_ {P:Program} {n:Nat} {Q:cq} {l:Fr} {H:World→Prop} {c:Code} {ι:Type} (fr:ι→Fr) (fC:ι→World→Prop) (ok:ι→Prop) (h:de P n c (Cp Q fr fC ok) l H) (f: ∀i,ok i→dU Q .normal (fr i) (fC i)):de P n c Q l H:=by
 intro w g a j;refine wp_mono (h w g a j) ?_;rintro e a w ⟨l1,b,d⟩;cases e with
 | normal=>
  obtain⟨i,k,m,o⟩:=d;exact⟨fr i,b.sub m,f i k w o⟩
 | _=>exact⟨l1,b,d⟩
def Cr (g par:Nat) (X:Chunk) (R:Int) (m:Nat) (T:bK) (w:World):Ending→World→Prop:=aO (λi:Bool × bK=> .bool i.1) (bz g par X T) (λi=>bz g par X i.2) (λi=>cp g R m i.2) w
set_option maxHeartbeats 1000000 in
theorem Vo [Inhabited bN] (w:World) (g par:Nat) (X:Chunk) (T:bK) (S:a8 w (bz g par X T)) {e:dV} (j:mg X e) {R:Int} {m:Nat} (a:cp g R m T) (Zi:m≤900000000000):
 Calls prog 179 [ptr g,.agg e.enc.toArray].toArray w (Cr g par X R (m+1000) T w):=by
 have I:=j.pf
 have Zj:=a.am.ok.nums
 have Zk:0≤T.am.x∧T.am.x≤1000:=by have Zl:=a.am.ok.x;have Zm:=a.am.ok.nums.2.1;simp only[bl.abs,bd.cols] at *;omega
 refine bC func179 ntmps179 S ?_;refine ah ?_;intro J Zn Zo;refine al ?_;refine ao rfl fc rfl (λb c=>fe b g par T (c.has bH)) ?_;refine aS ?_;refine bF [0,1,3,4] 2 [[(2,false,[]),(5,false,[6,7])]] ?_;refine al ?_;refine aY (l0:=[]) aB.nil rfl uF rfl (λb c=>vK b _ _ _ _ (j.rd b (c.has eX)) j.ok.nums _) (λZp Zq=>?_);refine ah ?_;refine aY (l0:=[]) aB.nil rfl uF rfl (λb c=>vK b _ _ _ _ (j.rd b (c.has eX)) j.ok.nums _) (λZr Zs=>?_);refine bI ?_;refine I_ (λ_:bK=>[(0,ptr g),(3,ptr J),(5,ptr T.am.g)]) (λbu=>af w (aA (bz g par X T)) (aE J e.enc 158::bz g par X bu)) (λbu=>cp g R (m+10) bu∧(e.byte=69∨e.byte=70→T.am.g=bu.am.g)) ?_ ?_;refine aL ?_;refine aj (λn=>?_) (λn=>?_);have K:=n
 refine aq ?_;refine eA rfl ((b5 K)) ?_;refine ah ?_;refine ov rfl rfl (wrap64 aa aa) ?_;refine ek (k:=0) a bb rfl nk rfl (λb o x=>nS o a.am _ _) (λT a ai d=>?_);refine aq ?_;exact iv T ⟨a.mono aa,λh=>by exact ai⟩ bR (λ_ h=>h);have K:=n
 refine ax ?_;refine aj (λaK=>?_) (λaK=>?_);have U:=aK
 refine ah ?_;refine ov rfl rfl (wrap64 aa aa) ?_;refine ek (k:=0) a bb rfl nk rfl (λb o x=>nS o a.am _ _) (λT a ai d=>?_);refine aq ?_;exact iv T ⟨a.mono aa,λh=>by exact ai⟩ bR (λ_ h=>h);have U:=aK
 refine aD ?_;refine aj (λp=>?_) (λp=>?_);have L:=p
 refine aq ?_;refine eA rfl ((b5 L)) ?_;refine ah ?_;refine ek (k:=0) a bb rfl nk rfl (λb o x=>nS o a.am _ _) (λT a ai d=>?_);refine aq ?_;exact iv T ⟨a.mono aa,λh=>by exact ai⟩ bR (λ_ h=>h);have L:=p
 refine al ?_;refine aj (λq=>?_) (λq=>?_);have M:=q
 refine aq ?_;refine eA rfl ((b5 M)) ?_;refine ah ?_;refine ek (k:=0) a bb rfl nk rfl (λb o x=>nS o a.am _ _) (λT a ai d=>?_);refine aq ?_;exact iv T ⟨a.mono aa,λh=>by exact ai⟩ bR (λ_ h=>h);have M:=q
 refine ax ?_;refine aj (λr=>?_) (λr=>?_);have V:=r
 refine ah ?_;refine ek (k:=0) a bb rfl nk rfl (λb o x=>nS o a.am _ _) (λT a ai d=>?_);refine aq ?_;exact iv T ⟨a.mono aa,λh=>by exact ai⟩ bR (λ_ h=>h);have V:=r
 refine aD ?_;refine aj (λs=>?_) (λs=>?_);have N:=s
 refine aq ?_;refine eA rfl ((b5 N)) ?_;refine ah ?_;refine ek (k:=0) a bb rfl nk rfl (λb o x=>nS o a.am _ _) (λT a ai d=>?_);refine aq ?_;exact iv T ⟨a.mono aa,λh=>by exact ai⟩ bR (λ_ h=>h);have N:=s
 refine ax ?_;refine aj (λt=>?_) (λt=>?_);have W:=t
 refine ah ?_;refine ek (k:=0) a bb rfl nk rfl (λb o x=>nS o a.am _ _) (λT a ai d=>?_);refine aq ?_;exact iv T ⟨a.mono aa,λh=>by exact ai⟩ bR (λ_ h=>h);have W:=t
 refine al ?_;refine aj (λu=>?_) (λu=>?_);have Y:=u
 refine ah ?_;refine ov rfl rfl (wrap64 aa aa) ?_;refine ek (k:=0) a bb rfl nk rfl (λb o x=>nS o a.am _ _) (λT a ai d=>?_);refine aq ?_;exact iv T ⟨a.mono aa,λh=>by exact ai⟩ bR (λ_ h=>h);have Y:=u
 refine aD ?_;refine aj (λv=>?_) (λv=>?_);have O:=v
 refine aq ?_;refine eA rfl ((b5 O)) ?_;refine ax ?_;refine ao rfl qY rfl (λb c=>rA b g par T (c.has bH) (c.eg (l:=aP T.am) cu Has.head) (c.eg (l:=aP T.am) cu (Has.tail Has.head)) a.am.ok.nums.2.1) ?_;refine ar ?_;refine ek (k:=0) a bb rfl nk rfl (λb o x=>nS o a.am _ _) (λT a ai d=>?_);refine aq ?_;exact iv T ⟨a.mono aa,λh=>by exact ai⟩ bR (λ_ h=>h);have O:=v
 refine ax ?_;refine aj (λy=>?_) (λy=>?_);have Z:=y
 refine ax ?_;refine ao rfl qY rfl (λb c=>rA b g par T (c.has bH) (c.eg (l:=aP T.am) cu Has.head) (c.eg (l:=aP T.am) cu (Has.tail Has.head)) a.am.ok.nums.2.1) ?_;refine ar ?_;refine ek (k:=0) a bb rfl nk rfl (λb o x=>nS o a.am _ _) (λT a ai d=>?_);refine aq ?_;exact iv T ⟨a.mono aa,λh=>by exact ai⟩ bR (λ_ h=>h);have Z:=y
 refine al ?_;refine aj (λz=>?_) (λz=>?_);have Za:=z
 refine ax ?_;refine ao rfl qY rfl (λb c=>rA b g par T (c.has bH) (c.eg (l:=aP T.am) cu Has.head) (c.eg (l:=aP T.am) cu (Has.tail Has.head)) a.am.ok.nums.2.1) ?_;refine ek (k:=0) a bb rfl pL rfl (λb o x=>rr o a.am _ _) (λT a ai d=>?_);refine aq ?_;exact iv T ⟨a.mono aa,λh=>by exact ai⟩ bR (λ_ h=>h);have Za:=z
 refine aD ?_;refine aj (λA=>?_) (λA=>?_);have P:=A
 refine aq ?_;refine eA rfl ((b5 P)) ?_;refine al ?_;refine ek (k:=0) a bb rfl pL rfl (λb o x=>rr o a.am _ _) (λT a ai d=>?_);refine aq ?_;exact iv T ⟨a.mono aa,λh=>by exact ai⟩ bR (λ_ h=>h);have P:=A
 refine ax ?_;refine aj (λB=>?_) (λB=>?_);have Zb:=B
 refine al ?_;refine ek (k:=0) a bb rfl pL rfl (λb o x=>rr o a.am _ _) (λT a ai d=>?_);refine aq ?_;exact iv T ⟨a.mono aa,λh=>by exact ai⟩ bR (λ_ h=>h);have Zb:=B
 refine al ?_;refine aj (λC=>?_) (λC=>?_);have Zc:=C
 refine ah ?_;refine ek (k:=0) a bb rfl zQ rfl (λb o x=>BZ o a.am (λw' h=>(I w' (x w' h)).yz) _) (λT a ai d=>?_);refine aq ?_;exact iv T ⟨a.mono aa,λh=>by exact ai⟩ bR (λ_ h=>h);have Zc:=C
 refine al ?_;refine aj (λD=>?_) (λD=>?_);have Zd:=D
 refine ah ?_;refine ov rfl rfl (wrap64 aa aa) ?_;refine ek (k:=0) a bb rfl zQ rfl (λb o x=>BZ o a.am (λw' h=>(I w' (x w' h)).yz) _) (λT a ai d=>?_);refine aq ?_;exact iv T ⟨a.mono aa,λh=>by exact ai⟩ bR (λ_ h=>h);have Zd:=D
 refine al ?_;refine aj (λE=>?_) (λE=>?_);have Ze:=E
 refine aq ?_;refine ek (k:=0) a bb rfl so rfl (λb o x=>tu o a.am) (λT a ai d=>?_);refine aq ?_;exact iv T ⟨a.mono aa,λh=>by exact ai⟩ bR (λ_ h=>h);have Ze:=E
 refine al ?_;refine aj (λF=>?_) (λF=>?_);have Zf:=F
 refine aq ?_;refine gZ rfl lO rfl (λb o=>mf b g par X T o a) (λT a=>?_);refine aq ?_;exact iv T ⟨a.mono aa,λh=>by (exfalso;omega)⟩ bR (λ_ h=>h);have Zf:=F
 refine aD ?_;refine Cq (wq ?_);refine ar ?_;intro G i;exact aN (false,T) (a.mono aa) i;rintro bu ⟨f,Q⟩;refine aL ?_;refine aX 93 rfl (λH=>?_) (λH=>?_);have Zg:=a1 H
 refine aJ ?_;refine ek (k:=0) f (Q aa) rfl qX rfl (λb o x=>tt o f.am) (λbu f ai d=>?_);refine aJ ?_;intro G i;exact aN (true,bu) (f.mono aa) i;have Zg:=bc H
 refine aJ ?_;refine aj (λZh=>?_) (λZh=>?_);refine aq ?_;refine ek (k:=0) f (Q aa) rfl qX rfl (λb o x=>tt o f.am) (λbu f ai d=>?_);refine aJ ?_;intro G i;exact aN (true,bu) (f.mono aa) i;refine aJ ?_;intro G i;exact aN (true,bu) (f.mono aa) i
section
structure tM where
 A:Option Addr
 n:Nat
 c:Nat
 lo:Nat
 hi:Nat
 l:List Int
abbrev tM.val (x:tM):Value:= .slice x.A x.n x.c
def tM.aG (x:tM):Chunk:=rn x.lo x.hi (λw=>Rd cr.bX w (λk=>x.lo≤k∧k<x.hi) x.A x.n x.c x.l) (λ_ _ b h=>Rd.loc h (λk a=>b k a.1 a.2))
theorem Vp [Inhabited bN] (w:World) (F:Nat→Prop) (A:Option Addr) (n c:Nat) {x:kL} (b:cr.ed w F A n c x.gs) (d:o3 x):
 Calls prog 244 [.slice A n c].toArray w (fd (λi:tM=>i.val) tM.aG (λi=>i.l.length=i.n∧i.n≤32∧(0<i.n→ ∃b2,i.A=some b2)) w):=by
 refine (cr.SC w F A n c x.gs b (by have:=b.len;have:=d.n;omega) d.vx).mono ?_;rintro e w' ⟨f,g,c',rfl,h,a⟩;have q: (cr.vp x.gs).length≤32:=by rw[cr.vp,cT];exact cr.Bm x.gs
 have j:=a.len
 exact⟨⟨f,g,c',w.heap.size,w'.heap.size,cr.vp x.gs⟩,⟨j,by dsimp only;omega,λm=>by obtain⟨b2,o,_⟩:=a.cells m;exact⟨b2,o⟩⟩,rfl,h,⟨λ_=>ch _,a.hI aZ⟩,λk p=>(od.1 p).1,x8 _ _ _ _⟩
section
variable {P:Program} {n:Nat} {ops:Array Oper} {Q:cq} {rest:List Oper} {l:Fr} {d:Nat} {ty:TypeId} {pos:String} {a6:Array Edge}
variable {b:World} {S:List Nat} {args:List Operand} {da:Array TypeId} {f:FuncId} {vs:List Value} {v:Value} {g par k m p:Nat} {R:Int} {T:bK} {X eY:Chunk}
theorem Vq (e:cp g R m T) (ak:Nat.blt d n=true) (i:ad P f) (j:cM l args=some vs)
 (o: ∀w,af b S (eY::bz g par X T) w→Calls P f vs.toArray w (d8 k T.am v w))
 (h: ∀bu:bK,cp g R (m+k) bu→kQ T bu→az P n ops Q rest ((d,v)::l) (af b S (eY::bz g par X bu))):
 az P n ops Q (⟨some d,.call ⟨.value (.func f),args.toArray,da⟩,ty,pos,a6,none⟩::rest) l (af b S (eY::bz g par X T)):=by
 refine kH (l0:=aP T.am) (l':=aP) (cs1:=λz=>[eY,eE g par T,aU (aP z),aU (aP T.bk),T.buf.au,T.aG.au,X]) (λz=>bn.tail (bn.tail bn.head)) ak i j o (λz a=>?_);have c:=h { T with am:=z } (e.rp a) ⟨rfl,a.g,rfl⟩
 simp only[bz] at c
 rw[rq a.g] at c
 exact c
end
theorem Vr [Inhabited bN] {b w:World} {S:List Nat} {eY X:Chunk} {g par p:Nat} {T:bK} {R:Int} {m:Nat} {e:dV} (a:mg X e) (d:cp g R m T) (ai:p=T.am.g) (h:af b S (eY::bz g par X T) w):Calls prog 264 [ptr p,e.nums.val].toArray w (d8 0 T.am (.tuple #[]) w):=by
 subst ai;refine Td w T.am (h.kG (Has.tail (Has.tail Has.head))) d.am.g e.nums.A e.nums.n e.nums.c e.nums.gs ⟨(a.rd w (h.has eX)).dJ (λk f=>?_),a.ok.nums.n,a.ok.nums.g⟩;have:=h.apart (l:=[aU (aP T.am)]) ae (c:=X) kv k f
 simpa [aA,aU] using this
theorem Vs [Inhabited bN] (w:World) (g par:Nat) (X:Chunk) (T:bK) (l:a8 w (bz g par X T)) {e:dV} (h:mg X e) {R:Int} {m:Nat} (a:cp g R m T) (C:m≤900000000000):
 Calls prog 180 [ptr g,.agg e.enc.toArray].toArray w (Cr g par X R (m+3000000) T w):=by
 have D:=h.pf
 refine bC func180 ntmps180 l ?_;refine ah ?_;intro E F G;refine al ?_;refine ao rfl fc rfl (λb f=>fe b g par T (f.has bH)) ?_;refine aD ?_;refine aY (l0:=[]) aB.nil rfl uF rfl (λb f=>vK b _ _ _ _ (h.rd b (f.has eX)) h.ok.nums _) (λH I=>?_);refine et ?_;refine aj (λn=>?_) (λn=>?_);refine ah ?_;refine ek (k:=0) a bb rfl NK rfl (λb o x=>Tu o a.am _) (λT a ai i=>?_);refine aR ?_;intro d c;exact aN (true,T) (a.mono aa) c;refine aD ?_;refine aj (λaK=>?_) (λaK=>?_);have j:=aK
 refine aq ?_;refine eA rfl ((b5 j)) ?_;refine bF [0,1,2,3,4] 2 [[(5,false,[]),(6,true,[])]] ?_;refine aD ?_;refine aY (l0:=[]) aB.nil rfl uC rfl (λb f=>yE b _ _ _ _ (h.rd b (f.has eX)) h.ok.nums _ _ aZ) (λp q=>?_);refine ah ?_;refine gZ rfl wU rfl (λb o=>yC b g par X T o a aa _ _) (λT a=>?_);refine bB ?_;intro d c;exact aN (true,T) (a.mono aa) c;have j:=aK
 refine ax ?_;refine aj (λr=>?_) (λr=>?_);refine bF [0,1,2,3,4] 2 [[(5,false,[]),(6,true,[])]] ?_;refine aD ?_;refine aY (l0:=[]) aB.nil rfl uC rfl (λb f=>yE b _ _ _ _ (h.rd b (f.has eX)) h.ok.nums _ _ aZ) (λp q=>?_);refine ah ?_;refine gZ rfl wU rfl (λb o=>yC b g par X T o a aa _ _) (λT a=>?_);refine bB ?_;intro d c;exact aN (true,T) (a.mono aa) c;refine al ?_;refine aj (λs=>?_) (λs=>?_);refine ah ?_;refine ek (k:=2000) a bb rfl NL rfl (λb o x=>Tx o a.am (by have:=a.be;omega) _) (λT a ai i=>?_);refine aR ?_;intro d c;exact aN (true,T) (a.mono aa) c;refine al ?_;refine aj (λt=>?_) (λt=>?_);refine ah ?_;refine ek (k:=2000) a bb rfl NM rfl (λb o x=>Ty o a.am (by have:=a.be;omega) _) (λT a ai i=>?_);refine aR ?_;intro d c;exact aN (true,T) (a.mono aa) c;refine al ?_;refine aj (λu=>?_) (λu=>?_);refine ah ?_;refine ek (k:=0) a bb rfl NN rfl (λb o x=>Tv o a.am _) (λT a ai i=>?_);refine aR ?_;intro d c;exact aN (true,T) (a.mono aa) c;refine al ?_;refine aj (λv=>?_) (λv=>?_);refine ah ?_;refine ek (k:=2000) a bb rfl EM rfl (λb o x=>H7 o a.am (by have:=a.be;omega) _) (λT a ai i=>?_);refine aR ?_;intro d c;exact aN (true,T) (a.mono aa) c;refine al ?_;refine aj (λy=>?_) (λy=>?_);refine ah ?_;refine ov rfl rfl (wrap64 aa aa) ?_;refine ek (k:=2000) a bb rfl EM rfl (λb o x=>H7 o a.am (by have:=a.be;omega) _) (λT a ai i=>?_);refine aR ?_;intro d c;exact aN (true,T) (a.mono aa) c;refine al ?_;refine aj (λz=>?_) (λz=>?_);refine ah ?_;refine ek (k:=0) a bb rfl NO rfl (λb o x=>Tw o a.am _) (λT a ai i=>?_);refine aR ?_;intro d c;exact aN (true,T) (a.mono aa) c;refine al ?_;refine aj (λA=>?_) (λA=>?_);refine ah ?_;refine ek (k:=2000000) a bb rfl NP rfl (λb o x=>Tz o a.am (by have:=a.be;omega) _) (λT a ai i=>?_);refine aR ?_;intro d c;exact aN (true,T) (a.mono aa) c;refine al ?_;refine aj (λB=>?_) (λB=>?_);refine aS ?_;refine Vq (k:=0) a rfl NQ rfl (λb f=>Vr h a bb f) (λT a i=>?_);refine aR ?_;intro d c;exact aN (true,T) (a.mono aa) c;refine aJ ?_;intro d c;exact aN (false,T) (a.mono aa) c
theorem yF [Inhabited bN] (w:World) (g par:Nat) (X:Chunk) (T:bK) (k:a8 w (bz g par X T)) {e:dV} (c:mg X e) {R:Int} {m:Nat} (a:cp g R m T) (F:m≤800000000000) (p:Bool):
 Calls prog 172 [ptr g,.bool p,.agg e.enc.toArray].toArray w (hy g par X R (m+100) (.tuple #[]) T w):=by
 have G:=c.pf
 refine bC func172 ntmps172 k ?_;refine ah ?_;intro d H I;refine al ?_;refine gm rfl NG rfl (λb r=>Vp b _ _ _ _ (c.rd b (r.has eX)) c.ok.nums) (λz s=>?_);refine ax ?_;obtain⟨J,K,u⟩:=s;refine b1 (ι:=Nat × bK) (λt=>[(0,ptr g),(1,.bool p),(5,ptr d),(10,z.val),(11,.int .i64 (z.n:Int)),(12,.int .i64 (t.1 :Int))]) (λt=>af w (aA (bz g par X T)) (z.aG::aE d e.enc 158::bz g par X t.2)) (λt=>t.1≤z.n∧cp g R (m+t.1) t.2) (λt=>z.n - t.1) ?_ ?_;exact λw' x=>⟨(0,T),⟨bP _,a⟩,(gC rfl rfl rfl rfl rfl rfl),x⟩
 rintro⟨i,T⟩ ⟨hi,a⟩;dsimp only at hi a ⊢
 refine al ?_;refine aj (λy=>?_) (λy=>?_);obtain⟨v,A⟩ : ∃v,z.l[i]? = some v:=⟨z.l[i]'aa,bG _⟩;obtain⟨b2,f⟩:=u aa;refine al ?_;refine bw (q:=i) dO rfl rfl rfl f rfl aa ?_;refine a7 (v:= .int .i64 v) bM rfl rfl (λB C=>by obtain⟨L,j,_,D⟩:=((C.has aQ:z.aG.pred B).2).at_ A;rw[f] at j;cases j;exact D 0 _ rfl) ?_;refine aR ?_;refine I2 rfl NH rfl (λb o=>Vk b g par X T o a aa _ _ _) (λT a=>?_);refine aD ?_;exact bg (i+1,T) ⟨aa,a⟩ bm bR (λ_ h=>h);refine ax ?_;intro M E;exact aN T (a.mono aa) E
end
section
theorem Vt [Inhabited bN] (y x:Int): (cW.yl (cW.eU y) (cW.eU x)).length≤1000:=by
 have a:=tJ (cW.eU y) (by have:=cW.l9 y;omega)
 have b:=tJ (cW.eU x) (by have:=cW.l9 x;omega)
 unfold cW.yl;simp
 omega
theorem Vu [Inhabited bN] (w:World) (g par:Nat) (X:Chunk) (T:bK) (C:a8 w (bz g par X T)) {e:dV} (h:mg X e) {R:Int} {m:Nat} (b:cp g R m T) (U:m≤800000000000) (k:Int):
 Calls prog 181 [ptr g,.agg e.enc.toArray,.int .i64 k].toArray w (hy g par X R (m+1000) (.tuple #[]) T w):=by
 have i:=h.pf
 have D:=Vt
 have V:=b.am.ok.nums
 have W:0≤T.am.x∧T.am.x≤1000:=by have Y:=b.am.ok.x;have Z:=b.am.ok.nums.2.1;simp only[bl.abs,bd.cols] at *;omega
 refine bC func181 ntmps181 C ?_;refine ah ?_;intro Za Zb Zc;refine ax ?_;refine ao rfl fc rfl (λa c=>fe a g par T (c.has bH)) ?_;refine al ?_;refine ao rfl jV rfl (λa c=>j3 a T.am (c.eg (l:=aP T.am) cu Has.head)) ?_;refine dx ?_;refine aj (λj=>?_) (λj=>?_);have E:=j
 refine al ?_;refine aj (λaK=>?_) (λaK=>?_);refine aq ?_;refine ao rfl EJ rfl (λa c=>cW.Ij a (i a (c.has eX)).it) ?_;refine gZ rfl ni rfl (λa o=>nZ a g par X T o b _ aa aZ) (λT b=>?_);refine ah ?_;intro f d;exact aN T (b.mono aa) d;refine ah ?_;intro f d;exact aN T (b.mono aa) d;have E:=j
 refine al ?_;refine aj (λn=>?_) (λn=>?_);have F:=n
 refine bB ?_;refine aj (λp=>?_) (λp=>?_);have G:=p
 refine aq ?_;refine ao rfl wV rfl (λa c=>x3 a T.am (c.eg (l:=aP T.am) cu Has.head)) ?_;refine ar ?_;refine ao rfl qY rfl (λa c=>rA a g par T (c.has bH) (c.eg (l:=aP T.am) cu Has.head) (c.eg (l:=aP T.am) cu (Has.tail Has.head)) b.am.ok.nums.2.1) ?_;refine I1 (k:=0) b rfl EG rfl (λa o x=>Vg o b.am _ aa) (λT b q=>?_);refine aS ?_;intro f d;exact aN T (b.mono aa) d;have G:=p
 refine al ?_;refine aj (λr=>?_) (λr=>?_);have H:=r
 refine aq ?_;refine ao rfl wV rfl (λa c=>x3 a T.am (c.eg (l:=aP T.am) cu Has.head)) ?_;refine I1 (k:=0) b rfl NR rfl (λa o x=>I6 o b.am) (λT b q=>?_);refine aS ?_;intro f d;exact aN T (b.mono aa) d;have H:=r
 refine aS ?_;intro f d;exact aN T (b.mono aa) d;have F:=n
 refine aD ?_;refine aj (λs=>?_) (λs=>?_);have B:=s
 refine aq ?_;refine eA rfl ((b5 B)) ?_;refine ah ?_;refine gZ rfl wT rfl (λa o=>yF a g par X T o h b aa _) (λT b=>?_);refine ah ?_;intro f d;exact aN T (b.mono aa) d;have B:=s
 refine ax ?_;refine aj (λt=>?_) (λt=>?_);have I:=t
 refine ah ?_;refine gZ rfl wT rfl (λa o=>yF a g par X T o h b aa _) (λT b=>?_);refine ah ?_;intro f d;exact aN T (b.mono aa) d;have I:=t
 refine al ?_;refine aj (λu=>?_) (λu=>?_);have J:=u
 refine bB ?_;refine aj (λv=>?_) (λv=>?_);have K:=v
 refine aq ?_;refine ao rfl NS rfl (λa c=>cW.TS a (i a (c.has eX)).it) ?_;refine gZ rfl ni rfl (λa o=>nZ a g par X T o b _ aa aZ) (λT b=>?_);refine aS ?_;intro f d;exact aN T (b.mono aa) d;have K:=v
 refine al ?_;refine aj (λy=>?_) (λy=>?_);have L:=y
 refine aq ?_;refine gZ rfl Ez rfl (λa o=>I8 a g par X T o i b aa _) (λT b=>?_);refine aS ?_;intro f d;exact aN T (b.mono aa) d;have L:=y
 refine aS ?_;intro f d;exact aN T (b.mono aa) d;have J:=u
 refine al ?_;refine aj (λz=>?_) (λz=>?_);have M:=z
 refine aS ?_;refine aY (l0:=[]) aB.nil rfl uC rfl (λa c=>yE a _ _ _ _ (h.rd a (c.has eX)) h.ok.nums _ _ aZ) (λZd Ze=>?_);refine aR ?_;refine aj (λN=>?_) (λN=>?_);refine aq ?_;refine ao rfl pH rfl (λa c=>p1 a T.am.ap (c.eg (l:=aP T.am) cu (Has.tail Has.head))) ?_;refine aD ?_;refine aY (l0:=[]) aB.nil rfl uF rfl (λa c=>vK a _ _ _ _ (h.rd a (c.has eX)) h.ok.nums _) (λO P=>?_);refine ah ?_;refine ek (k:=0) b bb rfl EN rfl (λa o x=>H5 o b.am _ _) (λT b ai q=>?_);refine ah ?_;intro f d;exact aN T (b.mono aa) d;refine al ?_;refine aY (l0:=[]) aB.nil rfl uF rfl (λa c=>vK a _ _ _ _ (h.rd a (c.has eX)) h.ok.nums _) (λO P=>?_);refine ah ?_;refine ek (k:=0) b bb rfl EN rfl (λa o x=>H5 o b.am _ _) (λT b ai q=>?_);refine ah ?_;intro f d;exact aN T (b.mono aa) d;have M:=z
 refine al ?_;refine aj (λA=>?_) (λA=>?_);have Q:=A
 refine al ?_;refine aj (λS=>?_) (λS=>?_);refine ah ?_;refine ao rfl pH rfl (λa c=>p1 a T.am.ap (c.eg (l:=aP T.am) cu (Has.tail Has.head))) ?_;refine ar ?_;refine ao rfl zX rfl (λa c=>AG a T.am.ap (c.eg (l:=aP T.am) cu (Has.tail Has.head))) ?_;refine ao rfl NT rfl (λa c=>cW.p0 a (i a (c.has eX)).it _ _) ?_;refine gZ rfl ni rfl (λa o=>nZ a g par X T o b _ aa (by apply D)) (λT b=>?_);refine ah ?_;intro f d;exact aN T (b.mono aa) d;refine ah ?_;intro f d;exact aN T (b.mono aa) d;have Q:=A
 refine ah ?_;intro f d;exact aN T (b.mono aa) d
section
variable {P:Program} {n:Nat} {ops:Array Oper} {Q:cq} {rest:List Oper} {l:Fr} {d:Nat} {ty:TypeId} {pos:String} {a6:Array Edge}
variable {b:World} {S:List Nat} {args:List Operand} {da:Array TypeId} {f:FuncId} {vs:List Value} {g par m:Nat} {R:Int} {T:bK} {X eY:Chunk}
theorem Ja (ak:Nat.blt d n=true) (c:ad P f) (i:cM l args=some vs)
 (j: ∀w,a8 w (bz g par X T)→Calls P f vs.toArray w (Cr g par X R m T w))
 (h: ∀(z:Bool) (bu:bK),cp g R m bu→az P n ops Q rest ((d,.bool z)::l) (af b S (eY::bz g par X bu))):
 az P n ops Q (⟨some d,.call ⟨.value (.func f),args.toArray,da⟩,ty,pos,a6,none⟩::rest) l (af b S (eY::bz g par X T)):=by
 refine gO rfl ak c i λw a=>?_
 have:=j w (a.bo ae)
 simp only[iA,iX];refine this.mono ?_;rintro e w' ⟨⟨z,bu⟩,hi,rfl,k⟩;exact⟨.bool z,rfl,(h z bu hi).at ((a.pU ae k).perm (og (l₁:=bz g par X bu) (l₂:=[eY])))⟩
end
theorem Jb (b:Nat) (p:Bool) (n:Int) (h: -1≤n∧n≤65535): (dz.ql b p n).length≤1000:=by
 have:=dz.H_ p n aa
 simp only[dz.ql,b8,eK,lH];omega
set_option maxHeartbeats 1000000 in
theorem Vv [Inhabited bN] (w:World) (g par:Nat) (X:Chunk) (T:bK) (K:a8 w (bz g par X T)) {e:dV} (f:mg X e) {R:Int} {m:Nat} (a:cp g R m T) (Zg:m≤700000000000):
 Calls prog 112 [ptr g,.agg e.enc.toArray].toArray w (hy g par X R (m+4000000) (.tuple #[]) T w):=by
 have v:=f.pf
 obtain⟨⟨L,M⟩,N,O⟩:=f.ok.u8;have P:=f.ok.inter
 obtain⟨kind,r,byte,pre,nums,inter,text,cut⟩:=e;dsimp only at L M N O P
 obtain⟨G,rfl⟩ : ∃c:UInt8,byte=(c.toNat:Int):=⟨UInt8.ofNat byte.toNat,by rw[qM];omega⟩;obtain⟨H,rfl⟩ : ∃c:UInt8,pre=(c.toNat:Int):=⟨UInt8.ofNat pre.toNat,by rw[qM];omega⟩;refine bC func112 ntmps112 K ?_;refine ah ?_;intro y Zh Zi;refine al ?_;refine aY (l0:=[]) aB.nil rfl uC rfl (λb i=>yE b _ _ _ _ (f.rd b (i.has eX)) f.ok.nums _ _ aZ) (λz Zj=>?_);refine aL ?_;refine dG (E:=cD) _ fk rfl rfl rfl rfl rfl (λZk Zl Zm=>?_);refine jd underlying59 underlying5 underlying9 rfl rfl (λQ A=>gV (A.has aQ)) ?_;refine aq ?_;refine eF rfl rfl rfl b7 ?_;refine aq ?_;refine dG (E:=cD) _ fk rfl rfl rfl rfl rfl (λZn Zo Zp=>?_);refine jd underlying59 underlying5 underlying9 rfl rfl (λQ A=>gV (A.has aQ)) ?_;refine eF rfl rfl rfl b7 ?_;refine aq ?_;refine cL (H':=af w (aA (bz g par X T)) (aE y (dV.enc ⟨kind,r,G.toNat,H.toNat,nums,inter,text,cut⟩) 158::bz g par X T)) ?_ (Sub.refl _) (λ_ d=>d.aw ae);refine hK (λ_:bK=>[(0,ptr g),(3,ptr y),(4,.int .i64 z)]) (λbu=>af w (aA (bz g par X T)) (aE y (dV.enc ⟨kind,r,G.toNat,H.toNat,nums,inter,text,cut⟩) 158::bz g par X bu)) (λbu=>cp g R (m+1000) bu) ?_ ?_;refine aL ?_;refine aj (λj=>?_) (λj=>?_);have I:=j
 simp only[b3] at j
 refine aq ?_;refine eA rfl ((b5 I)) ?_;refine ah ?_;refine gZ rfl wT rfl (λb o=>yF b g par X T o f a aa _) (λT a=>?_);refine aq ?_;exact dw T (a.mono aa) bR (λ_ h=>h);have I:=j
 simp only[b3] at j
 refine ax ?_;refine aj (λaK=>?_) (λaK=>?_);have S:=aK
 simp only[b3] at aK
 refine ah ?_;refine gZ rfl wT rfl (λb o=>yF b g par X T o f a aa _) (λT a=>?_);refine aq ?_;exact dw T (a.mono aa) bR (λ_ h=>h);have S:=aK
 simp only[b3] at aK
 refine al ?_;refine aj (λk=>?_) (λk=>?_);have U:=k
 simp only[b3] at k
 refine al ?_;refine aj (λV=>?_) (λV=>?_);refine aq ?_;refine gZ rfl Ez rfl (λb o=>I8 b g par X T o v a aa _) (λT a=>?_);refine aq ?_;exact dw T (a.mono aa) bR (λ_ h=>h);refine aq ?_;exact dw T (a.mono aa) bR (λ_ h=>h);have U:=k
 simp only[b3] at k
 refine aD ?_;refine aj (λl=>?_) (λl=>?_);have J:=l
 simp only[b3] at l
 refine aq ?_;refine eA rfl ((b5 J)) ?_;refine ax ?_;refine gZ rfl wU rfl (λb o=>yC b g par X T o a aa _ _) (λT a=>?_);refine aq ?_;exact dw T (a.mono aa) bR (λ_ h=>h);have J:=l
 simp only[b3] at l
 refine ax ?_;refine aj (λn=>?_) (λn=>?_);have W:=n
 simp only[b3] at n
 refine ax ?_;refine gZ rfl wU rfl (λb o=>yC b g par X T o a aa _ _) (λT a=>?_);refine aq ?_;exact dw T (a.mono aa) bR (λ_ h=>h);have W:=n
 simp only[b3] at n
 refine al ?_;refine aj (λq=>?_) (λq=>?_);have Y:=q
 simp only[b3] at q
 refine al ?_;refine aj (λZ=>?_) (λZ=>?_);refine aq ?_;refine ao rfl Nh rfl (λb i=>cW.TR b (v b (i.has eX)).it) ?_;refine gZ rfl ni rfl (λb o=>nZ b g par X T o a _ aa aZ) (λT a=>?_);refine aq ?_;exact dw T (a.mono aa) bR (λ_ h=>h);refine aq ?_;exact dw T (a.mono aa) bR (λ_ h=>h);have Y:=q
 simp only[b3] at q
 refine al ?_;refine aj (λs=>?_) (λs=>?_);have Za:=s
 simp only[b3] at s
 have B: ∀p,(dz.ql T.ca p z).length≤1000:=λp=>Jb _ _ _ aa
 refine aD ?_;refine ao rfl EA rfl (λb i=>dz.Ia b (v b (i.has eX)).it T.ca a.md _ _ aa) ?_;refine gZ rfl ni rfl (λb o=>nZ b g par X T o a _ aa (by apply B)) (λT a=>?_);refine aq ?_;exact dw T (a.mono aa) bR (λ_ h=>h);have Za:=s
 simp only[b3] at s
 refine al ?_;refine aj (λt=>?_) (λt=>?_);have Zb:=t
 simp only[b3] at t
 have B: ∀p,(dz.ql T.ca p z).length≤1000:=λp=>Jb _ _ _ aa
 refine aD ?_;refine ao rfl EA rfl (λb i=>dz.Ia b (v b (i.has eX)).it T.ca a.md _ _ aa) ?_;refine gZ rfl ni rfl (λb o=>nZ b g par X T o a _ aa (by apply B)) (λT a=>?_);refine aq ?_;exact dw T (a.mono aa) bR (λ_ h=>h);have Zb:=t
 simp only[b3] at t
 refine al ?_;refine aj (λu=>?_) (λu=>?_);have Zc:=u
 simp only[b3] at u
 refine aq ?_;refine gZ rfl Ni rfl (λb o=>Vf b g par X T o a) (λT a=>?_);refine aq ?_;exact dw T (a.mono aa) bR (λ_ h=>h);have Zc:=u
 simp only[b3] at u
 refine aq ?_;exact dw T (a.mono aa) bR (λ_ h=>h);intro T a;refine aD ?_;refine aX 74 rfl (λC=>?_) (λC=>?_);have Zd:=a1 C
 refine aL ?_;refine aX 79 rfl (λD=>?_) (λD=>?_);have Ze:=a1 D
 refine ax ?_;refine Ja rfl Nj rfl (λb o=>Vo b g par X T o f a aa) (λZq T a=>?_);refine aS ?_;refine aX 85 rfl (λZf=>?_) (λZf=>?_);refine ax ?_;refine Ja rfl Nk rfl (λb o=>Vs b g par X T o f a aa) (λZr T a=>?_);refine ax ?_;refine b6 rfl (λF=>?_) (λF=>?_);simp only[b3] at F
 refine aS ?_;refine gZ rfl Nl rfl (λb o=>Vu b g par X T o f a aa _) (λT a=>?_);refine aq ?_;intro x d;exact aN T (a.mono aa) d;simp only[b3] at F
 refine aq ?_;intro x d;exact aN T (a.mono aa) d;refine aR ?_;intro x d;exact aN T (a.mono aa) d;have Ze:=bc D
 refine dx ?_;intro x d;exact aN T (a.mono aa) d;have Zd:=bc C
 refine hs ?_;intro x d;exact aN T (a.mono aa) d
end
end Go.Proofs.YtoghoobfpcadbaaGreatDoor.Mq
