/- part 30 of the proof -/
import Derived.Test.YtkeokgcdnfjaaaaGreatDoorQ29
namespace Go.Proofs.YtkeokgcdnfjaaaaGreatDoor.Mq
open Go Go.RowKit Go.Proofs Tryz
structure l9 [Inhabited et] (X:Chunk) (e:dR):Prop where
 pa:vt X
 rd: ∀w,X.pred w→cr.d8 w (· ∈X.ce) e.nums.A e.nums.n e.nums.c e.nums.gs
 ok:lW e
def l_ (s:List UInt8):Int:=if s=[40] then 0 else if s=[41] then 1 else if s=[42] then 2 else if s=[43] then 3 else -1
theorem U5 (s:List UInt8):l_ s=0∨l_ s=1∨l_ s=2∨l_ s=3∨l_ s= -1:=by
 unfold l_;repeat' split
 all_goals omega
theorem vw (w:World) (s:List UInt8):Calls prog 224 [.string (bs s)].toArray w (Pure (.int .i64 (l_ s)) w):=by
 refine aW func224 ntmps224 ?_;refine eT ?_;refine aj (λc=>?_) (λc=>?_);refine aJ ?_;intro b a;exact⟨by unfold l_;simp_all,a.ext⟩;refine al ?_;refine aj (λaH=>?_) (λaH=>?_);refine aJ ?_;intro b a;exact⟨by unfold l_;simp_all,a.ext⟩;refine al ?_;refine aj (λd=>?_) (λd=>?_);refine aJ ?_;intro b a;exact⟨by unfold l_;simp_all,a.ext⟩;refine al ?_;refine aj (λe=>?_) (λe=>?_);refine aJ ?_;intro b a;exact⟨by unfold l_;simp_all,a.ext⟩;refine aR ?_;intro b a;exact⟨by unfold l_;simp_all,a.ext⟩
theorem yr [Inhabited et] (w:World) (c:fO) (s:List UInt8) (b:Int):Calls prog 164 [.agg c.enc.toArray,.string (bs s),.int .u8 b].toArray w (ca (λc:fO=> .agg c.enc.toArray) (λ_=>True) w):=by
 refine aW func164 ntmps164 ?_;rcases U5 s with ai | ai | ai | ai | ai
 refine ah ?_;intro f g i;refine aq ?_;intro j k l;refine ay ?_;refine ao rfl ur rfl (λe m=>(by have h:=vw e s;rw[ai] at h;exact h)) ?_;refine aJ ?_;refine aV 12 rfl (λn=>?_) (λn=>?_);have E:=aY n
 refine al ?_;refine aV 15 rfl (λaH=>?_) (λaH=>?_);have F:=aY aH
 refine ef ?_;refine dl rfl rfl underlying5 underlying3 rfl ?_;refine aq ?_;refine dq (q:=0) underlying102 ju rfl rfl rfl a7 aa ?_;refine bo ?_;intro d a;exact ca.of { c with fs:=IntKind.i64.wrap b } aU rfl a.ext;have F:=a8 aH
 refine aK ?_;refine aV 19 rfl (λo=>?_) (λo=>?_);have G:=aY o
 refine bo ?_;refine dl rfl rfl underlying5 underlying3 rfl ?_;refine aq ?_;refine dq (q:=0) underlying102 ju rfl rfl rfl a7 aa ?_;refine bo ?_;intro d a;exact ca.of { c with fs:=IntKind.i64.wrap b } aU rfl a.ext;have G:=a8 o
 refine aJ ?_;refine aj (λH=>?_) (λH=>?_);refine ah ?_;refine dl rfl rfl underlying5 underlying3 rfl ?_;refine aq ?_;refine dq (q:=0) underlying102 ju rfl rfl rfl a7 aa ?_;refine bo ?_;intro d a;exact ca.of { c with fs:=IntKind.i64.wrap b } aU rfl a.ext;refine aR ?_;intro d a;exact ca.of c aU rfl a.ext;have E:=a8 n
 refine jc ?_;intro d a;exact ca.of c aU rfl a.ext;refine ah ?_;intro f g i;refine aq ?_;intro j k l;refine ay ?_;refine ao rfl ur rfl (λe m=>(by have h:=vw e s;rw[ai] at h;exact h)) ?_;refine aJ ?_;refine aV 12 rfl (λp=>?_) (λp=>?_);have I:=aY p
 refine al ?_;refine aV 15 rfl (λr=>?_) (λr=>?_);have J:=aY r
 refine ef ?_;refine dl rfl rfl underlying5 underlying3 rfl ?_;refine aq ?_;refine dq (q:=1) underlying102 ju rfl rfl rfl a7 aa ?_;refine bo ?_;intro d a;exact ca.of { c with s1:=IntKind.i64.wrap b } aU rfl a.ext;have J:=a8 r
 refine aK ?_;refine aV 19 rfl (λt=>?_) (λt=>?_);have K:=aY t
 refine bo ?_;refine dl rfl rfl underlying5 underlying3 rfl ?_;refine aq ?_;refine dq (q:=1) underlying102 ju rfl rfl rfl a7 aa ?_;refine bo ?_;intro d a;exact ca.of { c with s1:=IntKind.i64.wrap b } aU rfl a.ext;have K:=a8 t
 refine aJ ?_;refine aj (λL=>?_) (λL=>?_);refine ah ?_;refine dl rfl rfl underlying5 underlying3 rfl ?_;refine aq ?_;refine dq (q:=1) underlying102 ju rfl rfl rfl a7 aa ?_;refine bo ?_;intro d a;exact ca.of { c with s1:=IntKind.i64.wrap b } aU rfl a.ext;refine aR ?_;intro d a;exact ca.of c aU rfl a.ext;have I:=a8 p
 refine jc ?_;intro d a;exact ca.of c aU rfl a.ext;refine ah ?_;intro f g i;refine aq ?_;intro j k l;refine ay ?_;refine ao rfl ur rfl (λe m=>(by have h:=vw e s;rw[ai] at h;exact h)) ?_;refine aJ ?_;refine aV 12 rfl (λu=>?_) (λu=>?_);have M:=aY u
 refine al ?_;refine aV 15 rfl (λv=>?_) (λv=>?_);have N:=aY v
 refine ef ?_;refine dl rfl rfl underlying5 underlying3 rfl ?_;refine aq ?_;refine dq (q:=2) underlying102 ju rfl rfl rfl a7 aa ?_;refine bo ?_;intro d a;exact ca.of { c with s2:=IntKind.i64.wrap b } aU rfl a.ext;have N:=a8 v
 refine aK ?_;refine aV 19 rfl (λx=>?_) (λx=>?_);have O:=aY x
 refine bo ?_;refine dl rfl rfl underlying5 underlying3 rfl ?_;refine aq ?_;refine dq (q:=2) underlying102 ju rfl rfl rfl a7 aa ?_;refine bo ?_;intro d a;exact ca.of { c with s2:=IntKind.i64.wrap b } aU rfl a.ext;have O:=a8 x
 refine aJ ?_;refine aj (λP=>?_) (λP=>?_);refine ah ?_;refine dl rfl rfl underlying5 underlying3 rfl ?_;refine aq ?_;refine dq (q:=2) underlying102 ju rfl rfl rfl a7 aa ?_;refine bo ?_;intro d a;exact ca.of { c with s2:=IntKind.i64.wrap b } aU rfl a.ext;refine aR ?_;intro d a;exact ca.of c aU rfl a.ext;have M:=a8 u
 refine jc ?_;intro d a;exact ca.of c aU rfl a.ext;refine ah ?_;intro f g i;refine aq ?_;intro j k l;refine ay ?_;refine ao rfl ur rfl (λe m=>(by have h:=vw e s;rw[ai] at h;exact h)) ?_;refine aJ ?_;refine aV 12 rfl (λy=>?_) (λy=>?_);have Q:=aY y
 refine al ?_;refine aV 15 rfl (λz=>?_) (λz=>?_);have R:=aY z
 refine ef ?_;refine dl rfl rfl underlying5 underlying3 rfl ?_;refine aq ?_;refine dq (q:=3) underlying102 ju rfl rfl rfl a7 aa ?_;refine bo ?_;intro d a;exact ca.of { c with lg:=IntKind.i64.wrap b } aU rfl a.ext;have R:=a8 z
 refine aK ?_;refine aV 19 rfl (λA=>?_) (λA=>?_);have S:=aY A
 refine bo ?_;refine dl rfl rfl underlying5 underlying3 rfl ?_;refine aq ?_;refine dq (q:=3) underlying102 ju rfl rfl rfl a7 aa ?_;refine bo ?_;intro d a;exact ca.of { c with lg:=IntKind.i64.wrap b } aU rfl a.ext;have S:=a8 A
 refine aJ ?_;refine aj (λT=>?_) (λT=>?_);refine ah ?_;refine dl rfl rfl underlying5 underlying3 rfl ?_;refine aq ?_;refine dq (q:=3) underlying102 ju rfl rfl rfl a7 aa ?_;refine bo ?_;intro d a;exact ca.of { c with lg:=IntKind.i64.wrap b } aU rfl a.ext;refine aR ?_;intro d a;exact ca.of c aU rfl a.ext;have Q:=a8 y
 refine jc ?_;intro d a;exact ca.of c aU rfl a.ext;refine ah ?_;intro f g i;refine aq ?_;intro j k l;refine ay ?_;refine ao rfl ur rfl (λe m=>(by have h:=vw e s;rw[ai] at h;exact h)) ?_;refine aJ ?_;refine aV 12 rfl (λB=>?_) (λB=>?_);have U:=aY B
 refine al ?_;refine aV 15 rfl (λC=>?_) (λC=>?_);have V:=aY C
 refine ef ?_;refine dl rfl rfl underlying5 underlying3 rfl ?_;refine aq ?_;refine dq (q:=0) underlying102 ju rfl rfl rfl aa aa ?_;refine bo ?_;intro d a;exact ca.of { c with fs:=IntKind.i64.wrap b } aU rfl a.ext;have V:=a8 C
 refine aK ?_;refine aV 19 rfl (λD=>?_) (λD=>?_);have W:=aY D
 refine bo ?_;refine dl rfl rfl underlying5 underlying3 rfl ?_;refine aq ?_;refine dq (q:=0) underlying102 ju rfl rfl rfl aa aa ?_;refine bo ?_;intro d a;exact ca.of { c with fs:=IntKind.i64.wrap b } aU rfl a.ext;have W:=a8 D
 refine aJ ?_;refine aj (λX=>?_) (λX=>?_);refine ah ?_;refine dl rfl rfl underlying5 underlying3 rfl ?_;refine aq ?_;refine dq (q:=0) underlying102 ju rfl rfl rfl aa aa ?_;refine bo ?_;intro d a;exact ca.of { c with fs:=IntKind.i64.wrap b } aU rfl a.ext;refine aR ?_;intro d a;exact ca.of c aU rfl a.ext;have U:=a8 B
 refine jc ?_;intro d a;exact ca.of c aU rfl a.ext
theorem U6 [Inhabited et] (w:World) (g par:Nat) (X:Chunk) (T:bK) (u:bb w (bx g par X T)) {e:dR} (v:l9 X e) {R:Int} {m:Nat} (a:cj g R m T) (y:m≤900000000000):
 Calls prog 111 [ptr g,.agg e.enc.toArray].toArray w (hn g par X R (m+1000) (.tuple #[]) T w):=by
 have z:=v.pa
 refine bI func111 ntmps111 u ?_;refine ah ?_;intro E F G;refine ay ?_;refine ao rfl fa rfl (λb d=>fc b g par T (d.has bF)) ?_;refine dB ?_;refine aj (λA=>?_) (λA=>?_);refine ay ?_;refine gX rfl MY rfl (λb o=>U3 b g par X T o z a y e.byte) (λT a=>?_);refine ah ?_;intro f c;exact aN T (a.mono aa) c;refine aC ?_;refine aj (λaH=>?_) (λaH=>?_);have q:=aH
 refine ar ?_;refine ev rfl ((b1 q)) ?_;refine bG [0,1,4,5,6,7] 3 [[(2,false,[3]),(8,false,[]),(9,true,[])]] ?_;refine aK ?_;refine ao rfl iZ rfl (λb d=>jl b T.am (d.ea (l:=aO T.am) cp Has.head)) ?_;refine aq ?_;refine aL rfl (λi j=>(j2 (t:=104) (off:=7) ab lF rfl rfl rfl aG)) ?_;refine ar ?_;refine aZ (l0:=[]) aA.nil rfl wI rfl (λb _=>yr b ⟨_,_,_,_,_,_⟩ e.inter e.byte) (λc9 _=>?_);refine ah ?_;refine eh (k:=0) a a7 rfl nb rfl (λb o x=>nM o a.am ⟨_,_,_,_,_,_⟩) (λT a ai h=>?_);refine ay ?_;intro f c;exact aN T (a.mono aa) c;have q:=aH
 refine al ?_;refine aj (λn=>?_) (λn=>?_);have r:=n
 refine ar ?_;refine ev rfl ((b1 r)) ?_;refine bG [0,1,4,5,6,7] 3 [[(2,false,[3]),(8,false,[]),(9,true,[])]] ?_;refine aK ?_;refine ao rfl iZ rfl (λb d=>jl b T.am (d.ea (l:=aO T.am) cp Has.head)) ?_;refine aq ?_;refine aL rfl (λi j=>(j2 (t:=104) (off:=7) ab lF rfl rfl rfl aG)) ?_;refine ar ?_;refine aZ (l0:=[]) aA.nil rfl wI rfl (λb _=>yr b ⟨_,_,_,_,_,_⟩ e.inter e.byte) (λc9 _=>?_);refine ah ?_;refine eh (k:=0) a a7 rfl nb rfl (λb o x=>nM o a.am ⟨_,_,_,_,_,_⟩) (λT a ai h=>?_);refine ay ?_;intro f c;exact aN T (a.mono aa) c;have r:=n
 refine al ?_;refine aj (λp=>?_) (λp=>?_);have s:=p
 refine ar ?_;refine ev rfl ((b1 s)) ?_;refine bG [0,1,4,5,6,7] 3 [[(2,false,[3]),(8,false,[]),(9,true,[])]] ?_;refine aK ?_;refine ao rfl iZ rfl (λb d=>jl b T.am (d.ea (l:=aO T.am) cp Has.head)) ?_;refine aq ?_;refine aL rfl (λi j=>(j2 (t:=104) (off:=7) ab lF rfl rfl rfl aG)) ?_;refine ar ?_;refine aZ (l0:=[]) aA.nil rfl wI rfl (λb _=>yr b ⟨_,_,_,_,_,_⟩ e.inter e.byte) (λc9 _=>?_);refine ah ?_;refine eh (k:=0) a a7 rfl nb rfl (λb o x=>nM o a.am ⟨_,_,_,_,_,_⟩) (λT a ai h=>?_);refine ay ?_;intro f c;exact aN T (a.mono aa) c;have s:=p
 refine ay ?_;refine aj (λB=>?_) (λB=>?_);refine bG [0,1,4,5,6,7] 3 [[(2,false,[3]),(8,false,[]),(9,true,[])]] ?_;refine aK ?_;refine ao rfl iZ rfl (λb d=>jl b T.am (d.ea (l:=aO T.am) cp Has.head)) ?_;refine aq ?_;refine aL rfl (λi j=>(j2 (t:=104) (off:=7) ab lF rfl rfl rfl aG)) ?_;refine ar ?_;refine aZ (l0:=[]) aA.nil rfl wI rfl (λb _=>yr b ⟨_,_,_,_,_,_⟩ e.inter e.byte) (λc9 _=>?_);refine ah ?_;refine eh (k:=0) a a7 rfl nb rfl (λb o x=>nM o a.am ⟨_,_,_,_,_,_⟩) (λT a ai h=>?_);refine ay ?_;intro f c;exact aN T (a.mono aa) c;refine al ?_;refine aj (λC=>?_) (λC=>?_);refine aC ?_;refine aj (λD=>?_) (λD=>?_);refine ar ?_;refine eh (k:=0) a a7 rfl MZ rfl (λb o x=>SS b T.am o a.am.g a.am.ok) (λT a ai h=>?_);refine ah ?_;intro f c;exact aN T (a.mono aa) c;refine ah ?_;intro f c;exact aN T (a.mono aa) c;refine ah ?_;intro f c;exact aN T (a.mono aa) c
theorem cr.U7 (w:World) (F:Nat→Prop) (A:Option Addr) (n c:Nat) (gs:List (List Int)) (a:cr.d8 w F A n c gs) (b:n≤1000000) (d: ∀g∈gs,g.length≤1000000) (i:Int):
 Calls prog 240 [.slice A n c,.int .i64 i].toArray w (λe w'=>e= .returned (.int .i64 (max 1 (cr.oV gs i 1)))∧Ext [] w w'):=by
 refine aW func240 ntmps240 ?_;refine aJ ?_;refine ao rfl uq rfl (λw' f=>cr.Hk w' F A n c gs (a.ext f.ext av) b d i 1) ?_;refine al ?_;intro j h;exact⟨rfl,h.ext⟩
theorem I2 (gs:List (List Int)) (i u:Int) (d: -1≤u∧u≤65535): -1≤cr.oV gs i u∧cr.oV gs i u≤65535:=by
 have b:=HN gs
 have e: -1≤cr.mI (cr.fo gs) i∧cr.mI (cr.fo gs) i≤65535:=by
  unfold cr.mI;split
  unfold cr.vb;generalize a: (cr.fo gs).getD i.toNat []=g
  cases g with
  | nil=>simp
  | cons x t=>
   have c: (x::t)∈cr.fo gs:=by
    rw[←a,fy];cases h: (cr.fo gs)[i.toNat]? with
    | none=>rw[fy,h] at a;cases a
    | some y=>exact c8 h
   exact (b.2 _ c).2.2 x List.mem_cons_self
  omega
 unfold cr.oV;split <;> omega
theorem oY.vj {x:kF} (h:oY x): ∀g∈x.gs,g.length≤1000000:=λg a=>by have:=h.g g a;omega
theorem ys [Inhabited et] (w:World) (F:Nat→Prop) (A:Option Addr) (n c:Nat) {x:kF} (a:cr.d8 w F A n c x.gs) (b:oY x) (i u:Int) (d: -1≤u∧u≤65535):
 Calls prog 166 [.slice A n c,.int .i64 i,.int .i64 u].toArray w (ca (λv:Int=> .int .i64 v) (λv=> -1≤v∧v≤65535) w):=
 (cr.Hk w F A n c x.gs a (by have:=a.len;have:=b.n;omega) b.vj i u).mono (λ_ _ ⟨e,f⟩=>by rw[e];exact ca.of _ (I2 x.gs i u d) rfl f)
theorem vx [Inhabited et] (w:World) (F:Nat→Prop) (A:Option Addr) (n c:Nat) {x:kF} (a:cr.d8 w F A n c x.gs) (b:oY x) (i:Int):
 Calls prog 240 [.slice A n c,.int .i64 i].toArray w (ca (λv:Int=> .int .i64 v) (λv=>1≤v∧v≤65535) w):=
 (cr.U7 w F A n c x.gs a (by have:=a.len;have:=b.n;omega) b.vj i).mono (λ_ _ ⟨d,e⟩=>by rw[d];exact ca.of _ (by have:=I2 x.gs i 1 a1;omega) rfl e)
def Ci {ι:Type} (Q:cl) (fr:ι→Fr) (fA:ι→World→Prop) (ok:ι→Prop):cl
 | .normal,l,w=> ∃i,ok i∧Sub l (fr i)∧fA i w
 | e,l,w=>Q e l w
theorem il {ι:Type} {Q:cl} {fr:ι→Fr} {fA:ι→World→Prop} {ok:ι→Prop} {l:Fr} {H:World→Prop} (i:ι) (a:ok i) (b:Sub l (fr i)) (c: ∀w,H w→fA i w):dP (Ci Q fr fA ok) .normal l H:=λw d=>⟨i,a,b,c w d⟩
theorem Cj {ι:Type} {Q:cl} {fr:ι→Fr} {fA:ι→World→Prop} {ok:ι→Prop} {l:Fr} {H:World→Prop} (h:dP Q .ret l H):dP (Ci Q fr fA ok) .ret l H:=λw a=>h w a
theorem I3 {P:Program} {n:Nat} {Q:cl} {l:Fr} {H:World→Prop} {c:Code} {ι:Type} (fr:ι→Fr) (fA:ι→World→Prop) (ok:ι→Prop) (h:dc P n c (Ci Q fr fA ok) l H) (f: ∀i,ok i→dP Q .normal (fr i) (fA i)):dc P n c Q l H:=by
 intro w g a j;refine wp_mono (h w g a j) ?_;rintro e a w ⟨l1,b,d⟩;cases e with
 | normal=>
  obtain⟨i,k,m,o⟩:=d;exact⟨fr i,b.sub m,f i k w o⟩
 | _=>exact⟨l1,b,d⟩
def Ck (g par:Nat) (X:Chunk) (R:Int) (m:Nat) (T:bK) (w:World):Ending→World→Prop:=aP (λi:Bool × bK=> .bool i.1) (bx g par X T) (λi=>bx g par X i.2) (λi=>cj g R m i.2) w
set_option maxHeartbeats 1000000 in
theorem U8 [Inhabited et] (w:World) (g par:Nat) (X:Chunk) (T:bK) (S:bb w (bx g par X T)) {e:dR} (j:l9 X e) {R:Int} {m:Nat} (a:cj g R m T) (Zi:m≤900000000000):
 Calls prog 174 [ptr g,.agg e.enc.toArray].toArray w (Ck g par X R (m+1000) T w):=by
 have I:=j.pa
 have Zj:=a.am.ok.nums
 have Zk:0≤T.am.x∧T.am.x≤1000:=by have Zl:=a.am.ok.x;have Zm:=a.am.ok.nums.2.1;simp only[bk.abs,bd.cols] at *;omega
 refine bI func174 ntmps174 S ?_;refine ah ?_;intro J Zn Zo;refine al ?_;refine ao rfl fa rfl (λb c=>fc b g par T (c.has bF)) ?_;refine aS ?_;refine bG [0,1,3,4] 2 [[(2,false,[]),(5,false,[6,7])]] ?_;refine al ?_;refine aZ (l0:=[]) aA.nil rfl uu rfl (λb c=>vx b _ _ _ _ (j.rd b (c.has eY)) j.ok.nums _) (λZp Zq=>?_);refine ah ?_;refine aZ (l0:=[]) aA.nil rfl uu rfl (λb c=>vx b _ _ _ _ (j.rd b (c.has eY)) j.ok.nums _) (λZr Zs=>?_);refine bH ?_;refine I3 (λ_:bK=>[(0,ptr g),(3,ptr J),(5,ptr T.am.g)]) (λbu=>af w (aB (bx g par X T)) (aD J e.enc 170::bx g par X bu)) (λbu=>cj g R (m+10) bu∧(e.byte=69∨e.byte=70→T.am.g=bu.am.g)) ?_ ?_;refine aK ?_;refine aj (λn=>?_) (λn=>?_);have K:=n
 refine ar ?_;refine ev rfl ((b1 K)) ?_;refine ah ?_;refine oj rfl rfl (wrap64 aa aa) ?_;refine eh (k:=0) a a7 rfl ne rfl (λb o x=>nL o a.am _ _) (λT a ai d=>?_);refine ar ?_;exact il T ⟨a.mono aa,λh=>by exact ai⟩ bO (λ_ h=>h);have K:=n
 refine ay ?_;refine aj (λaH=>?_) (λaH=>?_);have U:=aH
 refine ah ?_;refine oj rfl rfl (wrap64 aa aa) ?_;refine eh (k:=0) a a7 rfl ne rfl (λb o x=>nL o a.am _ _) (λT a ai d=>?_);refine ar ?_;exact il T ⟨a.mono aa,λh=>by exact ai⟩ bO (λ_ h=>h);have U:=aH
 refine aC ?_;refine aj (λp=>?_) (λp=>?_);have L:=p
 refine ar ?_;refine ev rfl ((b1 L)) ?_;refine ah ?_;refine eh (k:=0) a a7 rfl ne rfl (λb o x=>nL o a.am _ _) (λT a ai d=>?_);refine ar ?_;exact il T ⟨a.mono aa,λh=>by exact ai⟩ bO (λ_ h=>h);have L:=p
 refine al ?_;refine aj (λq=>?_) (λq=>?_);have M:=q
 refine ar ?_;refine ev rfl ((b1 M)) ?_;refine ah ?_;refine eh (k:=0) a a7 rfl ne rfl (λb o x=>nL o a.am _ _) (λT a ai d=>?_);refine ar ?_;exact il T ⟨a.mono aa,λh=>by exact ai⟩ bO (λ_ h=>h);have M:=q
 refine ay ?_;refine aj (λr=>?_) (λr=>?_);have V:=r
 refine ah ?_;refine eh (k:=0) a a7 rfl ne rfl (λb o x=>nL o a.am _ _) (λT a ai d=>?_);refine ar ?_;exact il T ⟨a.mono aa,λh=>by exact ai⟩ bO (λ_ h=>h);have V:=r
 refine aC ?_;refine aj (λs=>?_) (λs=>?_);have N:=s
 refine ar ?_;refine ev rfl ((b1 N)) ?_;refine ah ?_;refine eh (k:=0) a a7 rfl ne rfl (λb o x=>nL o a.am _ _) (λT a ai d=>?_);refine ar ?_;exact il T ⟨a.mono aa,λh=>by exact ai⟩ bO (λ_ h=>h);have N:=s
 refine ay ?_;refine aj (λt=>?_) (λt=>?_);have W:=t
 refine ah ?_;refine eh (k:=0) a a7 rfl ne rfl (λb o x=>nL o a.am _ _) (λT a ai d=>?_);refine ar ?_;exact il T ⟨a.mono aa,λh=>by exact ai⟩ bO (λ_ h=>h);have W:=t
 refine al ?_;refine aj (λu=>?_) (λu=>?_);have Y:=u
 refine ah ?_;refine oj rfl rfl (wrap64 aa aa) ?_;refine eh (k:=0) a a7 rfl ne rfl (λb o x=>nL o a.am _ _) (λT a ai d=>?_);refine ar ?_;exact il T ⟨a.mono aa,λh=>by exact ai⟩ bO (λ_ h=>h);have Y:=u
 refine aC ?_;refine aj (λv=>?_) (λv=>?_);have O:=v
 refine ar ?_;refine ev rfl ((b1 O)) ?_;refine ay ?_;refine ao rfl qS rfl (λb c=>rs b g par T (c.has bF) (c.ea (l:=aO T.am) cp Has.head) (c.ea (l:=aO T.am) cp (Has.tail Has.head)) a.am.ok.nums.2.1) ?_;refine aq ?_;refine eh (k:=0) a a7 rfl ne rfl (λb o x=>nL o a.am _ _) (λT a ai d=>?_);refine ar ?_;exact il T ⟨a.mono aa,λh=>by exact ai⟩ bO (λ_ h=>h);have O:=v
 refine ay ?_;refine aj (λy=>?_) (λy=>?_);have Z:=y
 refine ay ?_;refine ao rfl qS rfl (λb c=>rs b g par T (c.has bF) (c.ea (l:=aO T.am) cp Has.head) (c.ea (l:=aO T.am) cp (Has.tail Has.head)) a.am.ok.nums.2.1) ?_;refine aq ?_;refine eh (k:=0) a a7 rfl ne rfl (λb o x=>nL o a.am _ _) (λT a ai d=>?_);refine ar ?_;exact il T ⟨a.mono aa,λh=>by exact ai⟩ bO (λ_ h=>h);have Z:=y
 refine al ?_;refine aj (λz=>?_) (λz=>?_);have Za:=z
 refine ay ?_;refine ao rfl qS rfl (λb c=>rs b g par T (c.has bF) (c.ea (l:=aO T.am) cp Has.head) (c.ea (l:=aO T.am) cp (Has.tail Has.head)) a.am.ok.nums.2.1) ?_;refine eh (k:=0) a a7 rfl pE rfl (λb o x=>rk o a.am _ _) (λT a ai d=>?_);refine ar ?_;exact il T ⟨a.mono aa,λh=>by exact ai⟩ bO (λ_ h=>h);have Za:=z
 refine aC ?_;refine aj (λA=>?_) (λA=>?_);have P:=A
 refine ar ?_;refine ev rfl ((b1 P)) ?_;refine al ?_;refine eh (k:=0) a a7 rfl pE rfl (λb o x=>rk o a.am _ _) (λT a ai d=>?_);refine ar ?_;exact il T ⟨a.mono aa,λh=>by exact ai⟩ bO (λ_ h=>h);have P:=A
 refine ay ?_;refine aj (λB=>?_) (λB=>?_);have Zb:=B
 refine al ?_;refine eh (k:=0) a a7 rfl pE rfl (λb o x=>rk o a.am _ _) (λT a ai d=>?_);refine ar ?_;exact il T ⟨a.mono aa,λh=>by exact ai⟩ bO (λ_ h=>h);have Zb:=B
 refine al ?_;refine aj (λC=>?_) (λC=>?_);have Zc:=C
 refine ah ?_;refine eh (k:=0) a a7 rfl zI rfl (λb o x=>BS o a.am (λw' h=>(I w' (x w' h)).yn) _) (λT a ai d=>?_);refine ar ?_;exact il T ⟨a.mono aa,λh=>by exact ai⟩ bO (λ_ h=>h);have Zc:=C
 refine al ?_;refine aj (λD=>?_) (λD=>?_);have Zd:=D
 refine ah ?_;refine oj rfl rfl (wrap64 aa aa) ?_;refine eh (k:=0) a a7 rfl zI rfl (λb o x=>BS o a.am (λw' h=>(I w' (x w' h)).yn) _) (λT a ai d=>?_);refine ar ?_;exact il T ⟨a.mono aa,λh=>by exact ai⟩ bO (λ_ h=>h);have Zd:=D
 refine al ?_;refine aj (λE=>?_) (λE=>?_);have Ze:=E
 refine ar ?_;refine eh (k:=0) a a7 rfl se rfl (λb o x=>tj o a.am) (λT a ai d=>?_);refine ar ?_;exact il T ⟨a.mono aa,λh=>by exact ai⟩ bO (λ_ h=>h);have Ze:=E
 refine al ?_;refine aj (λF=>?_) (λF=>?_);have Zf:=F
 refine ar ?_;refine gX rfl lG rfl (λb o=>l8 b g par X T o a) (λT a=>?_);refine ar ?_;exact il T ⟨a.mono aa,λh=>by (exfalso;omega)⟩ bO (λ_ h=>h);have Zf:=F
 refine aC ?_;refine Cj (wc ?_);refine aq ?_;intro G i;exact aN (false,T) (a.mono aa) i;rintro bu ⟨f,Q⟩;refine aK ?_;refine aV 93 rfl (λH=>?_) (λH=>?_);have Zg:=aY H
 refine aJ ?_;refine eh (k:=0) f (Q aa) rfl qR rfl (λb o x=>th o f.am) (λbu f ai d=>?_);refine aJ ?_;intro G i;exact aN (true,bu) (f.mono aa) i;have Zg:=a8 H
 refine aJ ?_;refine aj (λZh=>?_) (λZh=>?_);refine ar ?_;refine eh (k:=0) f (Q aa) rfl qR rfl (λb o x=>th o f.am) (λbu f ai d=>?_);refine aJ ?_;intro G i;exact aN (true,bu) (f.mono aa) i;refine aJ ?_;intro G i;exact aN (true,bu) (f.mono aa) i
section
structure tE where
 A:Option Addr
 n:Nat
 c:Nat
 lo:Nat
 hi:Nat
 l:List Int
abbrev tE.val (x:tE):Value:= .slice x.A x.n x.c
def tE.aF (x:tE):Chunk:=rg x.lo x.hi (λw=>Rd cr.bS w (λk=>x.lo≤k∧k<x.hi) x.A x.n x.c x.l) (λ_ _ b h=>Rd.loc h (λk a=>b k a.1 a.2))
theorem U9 [Inhabited et] (w:World) (F:Nat→Prop) (A:Option Addr) (n c:Nat) {x:kF} (b:cr.d8 w F A n c x.gs) (d:oY x):
 Calls prog 230 [.slice A n c].toArray w (fb (λi:tE=>i.val) tE.aF (λi=>i.l.length=i.n∧i.n≤32∧(0<i.n→ ∃bX,i.A=some bX)) w):=by
 refine (cr.Sl w F A n c x.gs b (by have:=b.len;have:=d.n;omega) d.vj).mono ?_;rintro e w' ⟨f,g,c',rfl,h,a⟩;have q: (cr.vc x.gs).length≤32:=by rw[cr.vc,cN];exact cr.Be x.gs
 have j:=a.len
 exact⟨⟨f,g,c',w.heap.size,w'.heap.size,cr.vc x.gs⟩,⟨j,by dsimp only;omega,λm=>by obtain⟨bX,o,_⟩:=a.cells m;exact⟨bX,o⟩⟩,rfl,h,⟨λ_=>cd _,a.hA a1⟩,λk p=>(n8.1 p).1,xX _ _ _ _⟩
section
variable {P:Program} {n:Nat} {ops:Array Oper} {Q:cl} {rest:List Oper} {l:Fr} {d:Nat} {ty:TypeId} {pos:String} {a6:Array Edge}
variable {b:World} {S:List Nat} {args:List Operand} {c_:Array TypeId} {f:FuncId} {vs:List Value} {v:Value} {g par k m p:Nat} {R:Int} {T:bK} {X eZ:Chunk}
theorem U_ (e:cj g R m T) (ak:Nat.blt d n=true) (i:ad P f) (j:cH l args=some vs)
 (o: ∀w,af b S (eZ::bx g par X T) w→Calls P f vs.toArray w (dW k T.am v w))
 (h: ∀bu:bK,cj g R (m+k) bu→kK T bu→az P n ops Q rest ((d,v)::l) (af b S (eZ::bx g par X bu))):
 az P n ops Q (⟨some d,.call ⟨.value (.func f),args.toArray,c_⟩,ty,pos,a6,none⟩::rest) l (af b S (eZ::bx g par X T)):=by
 refine kB (l0:=aO T.am) (l':=aO) (cs1:=λz=>[eZ,eI g par T,aT (aO z),aT (aO T.bj),T.buf.au,T.aF.au,X]) (λz=>bn.tail (bn.tail bn.head)) ak i j o (λz a=>?_);have c:=h { T with am:=z } (e.ri a) ⟨rfl,a.g,rfl⟩
 simp only[bx] at c
 rw[rj a.g] at c
 exact c
end
theorem Va [Inhabited et] {b w:World} {S:List Nat} {eZ X:Chunk} {g par p:Nat} {T:bK} {R:Int} {m:Nat} {e:dR} (a:l9 X e) (d:cj g R m T) (ai:p=T.am.g) (h:af b S (eZ::bx g par X T) w):Calls prog 250 [ptr p,e.nums.val].toArray w (dW 0 T.am (.tuple #[]) w):=by
 subst ai;refine SX w T.am (h.kA (Has.tail (Has.tail Has.head))) d.am.g e.nums.A e.nums.n e.nums.c e.nums.gs ⟨(a.rd w (h.has eY)).dC (λk f=>?_),a.ok.nums.n,a.ok.nums.g⟩;have:=h.apart (l:=[aT (aO T.am)]) ae (c:=X) kp k f
 simpa [aB,aT] using this
theorem Vb [Inhabited et] (w:World) (g par:Nat) (X:Chunk) (T:bK) (l:bb w (bx g par X T)) {e:dR} (h:l9 X e) {R:Int} {m:Nat} (a:cj g R m T) (C:m≤900000000000):
 Calls prog 175 [ptr g,.agg e.enc.toArray].toArray w (Ck g par X R (m+3000000) T w):=by
 have D:=h.pa
 refine bI func175 ntmps175 l ?_;refine ah ?_;intro E F G;refine al ?_;refine ao rfl fa rfl (λb f=>fc b g par T (f.has bF)) ?_;refine aC ?_;refine aZ (l0:=[]) aA.nil rfl uu rfl (λb f=>vx b _ _ _ _ (h.rd b (f.has eY)) h.ok.nums _) (λH I=>?_);refine ef ?_;refine aj (λn=>?_) (λn=>?_);refine ah ?_;refine eh (k:=0) a a7 rfl Nt rfl (λb o x=>Td o a.am _) (λT a ai i=>?_);refine aR ?_;intro d c;exact aN (true,T) (a.mono aa) c;refine aC ?_;refine aj (λaH=>?_) (λaH=>?_);have j:=aH
 refine ar ?_;refine ev rfl ((b1 j)) ?_;refine bG [0,1,2,3,4] 2 [[(5,false,[]),(6,true,[])]] ?_;refine aC ?_;refine aZ (l0:=[]) aA.nil rfl uq rfl (λb f=>ys b _ _ _ _ (h.rd b (f.has eY)) h.ok.nums _ _ a1) (λp q=>?_);refine ah ?_;refine gX rfl wK rfl (λb o=>yq b g par X T o a aa _ _) (λT a=>?_);refine bw ?_;intro d c;exact aN (true,T) (a.mono aa) c;have j:=aH
 refine ay ?_;refine aj (λr=>?_) (λr=>?_);refine bG [0,1,2,3,4] 2 [[(5,false,[]),(6,true,[])]] ?_;refine aC ?_;refine aZ (l0:=[]) aA.nil rfl uq rfl (λb f=>ys b _ _ _ _ (h.rd b (f.has eY)) h.ok.nums _ _ a1) (λp q=>?_);refine ah ?_;refine gX rfl wK rfl (λb o=>yq b g par X T o a aa _ _) (λT a=>?_);refine bw ?_;intro d c;exact aN (true,T) (a.mono aa) c;refine al ?_;refine aj (λs=>?_) (λs=>?_);refine ah ?_;refine eh (k:=2000) a a7 rfl Nu rfl (λb o x=>Tg o a.am (by have:=a.be;omega) _) (λT a ai i=>?_);refine aR ?_;intro d c;exact aN (true,T) (a.mono aa) c;refine al ?_;refine aj (λt=>?_) (λt=>?_);refine ah ?_;refine eh (k:=2000) a a7 rfl Nv rfl (λb o x=>Th o a.am (by have:=a.be;omega) _) (λT a ai i=>?_);refine aR ?_;intro d c;exact aN (true,T) (a.mono aa) c;refine al ?_;refine aj (λu=>?_) (λu=>?_);refine ah ?_;refine eh (k:=0) a a7 rfl Nw rfl (λb o x=>Te o a.am _) (λT a ai i=>?_);refine aR ?_;intro d c;exact aN (true,T) (a.mono aa) c;refine al ?_;refine aj (λv=>?_) (λv=>?_);refine ah ?_;refine eh (k:=2000) a a7 rfl ED rfl (λb o x=>H0 o a.am (by have:=a.be;omega) _) (λT a ai i=>?_);refine aR ?_;intro d c;exact aN (true,T) (a.mono aa) c;refine al ?_;refine aj (λy=>?_) (λy=>?_);refine ah ?_;refine oj rfl rfl (wrap64 aa aa) ?_;refine eh (k:=2000) a a7 rfl ED rfl (λb o x=>H0 o a.am (by have:=a.be;omega) _) (λT a ai i=>?_);refine aR ?_;intro d c;exact aN (true,T) (a.mono aa) c;refine al ?_;refine aj (λz=>?_) (λz=>?_);refine ah ?_;refine eh (k:=0) a a7 rfl Nx rfl (λb o x=>Tf o a.am _) (λT a ai i=>?_);refine aR ?_;intro d c;exact aN (true,T) (a.mono aa) c;refine al ?_;refine aj (λA=>?_) (λA=>?_);refine ah ?_;refine eh (k:=2000000) a a7 rfl Ny rfl (λb o x=>Ti o a.am (by have:=a.be;omega) _) (λT a ai i=>?_);refine aR ?_;intro d c;exact aN (true,T) (a.mono aa) c;refine al ?_;refine aj (λB=>?_) (λB=>?_);refine aS ?_;refine U_ (k:=0) a rfl Nz rfl (λb f=>Va h a a7 f) (λT a i=>?_);refine aR ?_;intro d c;exact aN (true,T) (a.mono aa) c;refine aJ ?_;intro d c;exact aN (false,T) (a.mono aa) c
theorem yt [Inhabited et] (w:World) (g par:Nat) (X:Chunk) (T:bK) (k:bb w (bx g par X T)) {e:dR} (c:l9 X e) {R:Int} {m:Nat} (a:cj g R m T) (F:m≤800000000000) (p:Bool):
 Calls prog 167 [ptr g,.bool p,.agg e.enc.toArray].toArray w (hn g par X R (m+100) (.tuple #[]) T w):=by
 have G:=c.pa
 refine bI func167 ntmps167 k ?_;refine ah ?_;intro d H I;refine al ?_;refine gg rfl Np rfl (λb r=>U9 b _ _ _ _ (c.rd b (r.has eY)) c.ok.nums) (λz s=>?_);refine ay ?_;obtain⟨J,K,u⟩:=s;refine b3 (ι:=Nat × bK) (λt=>[(0,ptr g),(1,.bool p),(5,ptr d),(10,z.val),(11,.int .i64 (z.n:Int)),(12,.int .i64 (t.1 :Int))]) (λt=>af w (aB (bx g par X T)) (z.aF::aD d e.enc 170::bx g par X t.2)) (λt=>t.1≤z.n∧cj g R (m+t.1) t.2) (λt=>z.n - t.1) ?_ ?_;exact λw' x=>⟨(0,T),⟨bN _,a⟩,(hg rfl rfl rfl rfl rfl rfl),x⟩
 rintro⟨i,T⟩ ⟨hi,a⟩;dsimp only at hi a ⊢
 refine al ?_;refine aj (λy=>?_) (λy=>?_);obtain⟨v,A⟩ : ∃v,z.l[i]? = some v:=⟨z.l[i]'aa,bE _⟩;obtain⟨bX,f⟩:=u aa;refine al ?_;refine bD (q:=i) dJ rfl rfl rfl f rfl aa ?_;refine ba (v:= .int .i64 v) bM rfl rfl (λB C=>by obtain⟨L,j,_,D⟩:=((C.has aQ:z.aF.pred B).2).at_ A;rw[f] at j;cases j;exact D 0 _ rfl) ?_;refine aR ?_;refine IV rfl Nq rfl (λb o=>U4 b g par X T o a aa _ _ _) (λT a=>?_);refine aC ?_;exact bg (i+1,T) ⟨aa,a⟩ bm bO (λ_ h=>h);refine ay ?_;intro M E;exact aN T (a.mono aa) E
end
section
theorem Vc [Inhabited et] (y x:Int): (cS.x_ (cS.eV y) (cS.eV x)).length≤1000:=by
 have a:=tB (cS.eV y) (by have:=cS.lZ y;omega)
 have b:=tB (cS.eV x) (by have:=cS.lZ x;omega)
 unfold cS.x_;simp
 omega
theorem Vd [Inhabited et] (w:World) (g par:Nat) (X:Chunk) (T:bK) (C:bb w (bx g par X T)) {e:dR} (h:l9 X e) {R:Int} {m:Nat} (b:cj g R m T) (U:m≤800000000000) (k:Int):
 Calls prog 176 [ptr g,.agg e.enc.toArray,.int .i64 k].toArray w (hn g par X R (m+1000) (.tuple #[]) T w):=by
 have i:=h.pa
 have D:=Vc
 have V:=b.am.ok.nums
 have W:0≤T.am.x∧T.am.x≤1000:=by have Y:=b.am.ok.x;have Z:=b.am.ok.nums.2.1;simp only[bk.abs,bd.cols] at *;omega
 refine bI func176 ntmps176 C ?_;refine ah ?_;intro Za Zb Zc;refine ay ?_;refine ao rfl fa rfl (λa c=>fc a g par T (c.has bF)) ?_;refine al ?_;refine ao rfl jO rfl (λa c=>jW a T.am (c.ea (l:=aO T.am) cp Has.head)) ?_;refine dB ?_;refine aj (λj=>?_) (λj=>?_);have E:=j
 refine al ?_;refine aj (λaH=>?_) (λaH=>?_);refine ar ?_;refine ao rfl EA rfl (λa c=>cS.Ic a (i a (c.has eY)).it) ?_;refine gX rfl nc rfl (λa o=>nS a g par X T o b _ aa a1) (λT b=>?_);refine ah ?_;intro f d;exact aN T (b.mono aa) d;refine ah ?_;intro f d;exact aN T (b.mono aa) d;have E:=j
 refine al ?_;refine aj (λn=>?_) (λn=>?_);have F:=n
 refine bw ?_;refine aj (λp=>?_) (λp=>?_);have G:=p
 refine ar ?_;refine ao rfl wL rfl (λa c=>xS a T.am (c.ea (l:=aO T.am) cp Has.head)) ?_;refine aq ?_;refine ao rfl qS rfl (λa c=>rs a g par T (c.has bF) (c.ea (l:=aO T.am) cp Has.head) (c.ea (l:=aO T.am) cp (Has.tail Has.head)) b.am.ok.nums.2.1) ?_;refine IU (k:=0) b rfl Ex rfl (λa o x=>U0 o b.am _ aa) (λT b q=>?_);refine aS ?_;intro f d;exact aN T (b.mono aa) d;have G:=p
 refine al ?_;refine aj (λr=>?_) (λr=>?_);have H:=r
 refine ar ?_;refine ao rfl wL rfl (λa c=>xS a T.am (c.ea (l:=aO T.am) cp Has.head)) ?_;refine IU (k:=0) b rfl NA rfl (λa o x=>IZ o b.am) (λT b q=>?_);refine aS ?_;intro f d;exact aN T (b.mono aa) d;have H:=r
 refine aS ?_;intro f d;exact aN T (b.mono aa) d;have F:=n
 refine aC ?_;refine aj (λs=>?_) (λs=>?_);have B:=s
 refine ar ?_;refine ev rfl ((b1 B)) ?_;refine ah ?_;refine gX rfl wJ rfl (λa o=>yt a g par X T o h b aa _) (λT b=>?_);refine ah ?_;intro f d;exact aN T (b.mono aa) d;have B:=s
 refine ay ?_;refine aj (λt=>?_) (λt=>?_);have I:=t
 refine ah ?_;refine gX rfl wJ rfl (λa o=>yt a g par X T o h b aa _) (λT b=>?_);refine ah ?_;intro f d;exact aN T (b.mono aa) d;have I:=t
 refine al ?_;refine aj (λu=>?_) (λu=>?_);have J:=u
 refine bw ?_;refine aj (λv=>?_) (λv=>?_);have K:=v
 refine ar ?_;refine ao rfl NB rfl (λa c=>cS.TB a (i a (c.has eY)).it) ?_;refine gX rfl nc rfl (λa o=>nS a g par X T o b _ aa a1) (λT b=>?_);refine aS ?_;intro f d;exact aN T (b.mono aa) d;have K:=v
 refine al ?_;refine aj (λy=>?_) (λy=>?_);have L:=y
 refine ar ?_;refine gX rfl Eq rfl (λa o=>I1 a g par X T o i b aa _) (λT b=>?_);refine aS ?_;intro f d;exact aN T (b.mono aa) d;have L:=y
 refine aS ?_;intro f d;exact aN T (b.mono aa) d;have J:=u
 refine al ?_;refine aj (λz=>?_) (λz=>?_);have M:=z
 refine aS ?_;refine aZ (l0:=[]) aA.nil rfl uq rfl (λa c=>ys a _ _ _ _ (h.rd a (c.has eY)) h.ok.nums _ _ a1) (λZd Ze=>?_);refine aR ?_;refine aj (λN=>?_) (λN=>?_);refine ar ?_;refine ao rfl pA rfl (λa c=>pU a T.am.ap (c.ea (l:=aO T.am) cp (Has.tail Has.head))) ?_;refine aC ?_;refine aZ (l0:=[]) aA.nil rfl uu rfl (λa c=>vx a _ _ _ _ (h.rd a (c.has eY)) h.ok.nums _) (λO P=>?_);refine ah ?_;refine eh (k:=0) b a7 rfl EE rfl (λa o x=>HY o b.am _ _) (λT b ai q=>?_);refine ah ?_;intro f d;exact aN T (b.mono aa) d;refine al ?_;refine aZ (l0:=[]) aA.nil rfl uu rfl (λa c=>vx a _ _ _ _ (h.rd a (c.has eY)) h.ok.nums _) (λO P=>?_);refine ah ?_;refine eh (k:=0) b a7 rfl EE rfl (λa o x=>HY o b.am _ _) (λT b ai q=>?_);refine ah ?_;intro f d;exact aN T (b.mono aa) d;have M:=z
 refine al ?_;refine aj (λA=>?_) (λA=>?_);have Q:=A
 refine al ?_;refine aj (λS=>?_) (λS=>?_);refine ah ?_;refine ao rfl pA rfl (λa c=>pU a T.am.ap (c.ea (l:=aO T.am) cp (Has.tail Has.head))) ?_;refine aq ?_;refine ao rfl zP rfl (λa c=>Ay a T.am.ap (c.ea (l:=aO T.am) cp (Has.tail Has.head))) ?_;refine ao rfl NC rfl (λa c=>cS.pT a (i a (c.has eY)).it _ _) ?_;refine gX rfl nc rfl (λa o=>nS a g par X T o b _ aa (by apply D)) (λT b=>?_);refine ah ?_;intro f d;exact aN T (b.mono aa) d;refine ah ?_;intro f d;exact aN T (b.mono aa) d;have Q:=A
 refine ah ?_;intro f d;exact aN T (b.mono aa) d
section
variable {P:Program} {n:Nat} {ops:Array Oper} {Q:cl} {rest:List Oper} {l:Fr} {d:Nat} {ty:TypeId} {pos:String} {a6:Array Edge}
variable {b:World} {S:List Nat} {args:List Operand} {c_:Array TypeId} {f:FuncId} {vs:List Value} {g par m:Nat} {R:Int} {T:bK} {X eZ:Chunk}
theorem I4 (ak:Nat.blt d n=true) (c:ad P f) (i:cH l args=some vs)
 (j: ∀w,bb w (bx g par X T)→Calls P f vs.toArray w (Ck g par X R m T w))
 (h: ∀(z:Bool) (bu:bK),cj g R m bu→az P n ops Q rest ((d,.bool z)::l) (af b S (eZ::bx g par X bu))):
 az P n ops Q (⟨some d,.call ⟨.value (.func f),args.toArray,c_⟩,ty,pos,a6,none⟩::rest) l (af b S (eZ::bx g par X T)):=by
 refine gJ rfl ak c i λw a=>?_
 have:=j w (a.bp ae)
 simp only[ir,iP];refine this.mono ?_;rintro e w' ⟨⟨z,bu⟩,hi,rfl,k⟩;exact⟨.bool z,rfl,(h z bu hi).at ((a.pN ae k).perm (n9 (l₁:=bx g par X bu) (l₂:=[eZ])))⟩
end
theorem I5 (b:Nat) (p:Bool) (n:Int) (h: -1≤n∧n≤65535): (dt.qf b p n).length≤1000:=by
 have:=dt.H3 p n aa
 simp only[dt.qf,b0,eK,jL];omega
set_option maxHeartbeats 1000000 in
theorem Ve [Inhabited et] (w:World) (g par:Nat) (X:Chunk) (T:bK) (K:bb w (bx g par X T)) {e:dR} (f:l9 X e) {R:Int} {m:Nat} (a:cj g R m T) (Zg:m≤700000000000):
 Calls prog 112 [ptr g,.agg e.enc.toArray].toArray w (hn g par X R (m+4000000) (.tuple #[]) T w):=by
 have v:=f.pa
 obtain⟨⟨L,M⟩,N,O⟩:=f.ok.u8;have P:=f.ok.inter
 obtain⟨kind,r,byte,pre,nums,inter,text,cut⟩:=e;dsimp only at L M N O P
 obtain⟨G,rfl⟩ : ∃c:UInt8,byte=(c.toNat:Int):=⟨UInt8.ofNat byte.toNat,by rw[qG];omega⟩;obtain⟨H,rfl⟩ : ∃c:UInt8,pre=(c.toNat:Int):=⟨UInt8.ofNat pre.toNat,by rw[qG];omega⟩;refine bI func112 ntmps112 K ?_;refine ah ?_;intro y Zh Zi;refine al ?_;refine aZ (l0:=[]) aA.nil rfl uq rfl (λb i=>ys b _ _ _ _ (f.rd b (i.has eY)) f.ok.nums _ _ a1) (λz Zj=>?_);refine aK ?_;refine dx (E:=cy) _ fi rfl rfl rfl rfl rfl (λZk Zl Zm=>?_);refine i_ underlying62 underlying5 underlying9 rfl rfl (λQ A=>gT (A.has aQ)) ?_;refine ar ?_;refine eE rfl rfl rfl b4 ?_;refine ar ?_;refine dx (E:=cy) _ fi rfl rfl rfl rfl rfl (λZn Zo Zp=>?_);refine i_ underlying62 underlying5 underlying9 rfl rfl (λQ A=>gT (A.has aQ)) ?_;refine eE rfl rfl rfl b4 ?_;refine ar ?_;refine cG (H':=af w (aB (bx g par X T)) (aD y (dR.enc ⟨kind,r,G.toNat,H.toNat,nums,inter,text,cut⟩) 170::bx g par X T)) ?_ (Sub.refl _) (λ_ d=>d.aw ae);refine hC (λ_:bK=>[(0,ptr g),(3,ptr y),(4,.int .i64 z)]) (λbu=>af w (aB (bx g par X T)) (aD y (dR.enc ⟨kind,r,G.toNat,H.toNat,nums,inter,text,cut⟩) 170::bx g par X bu)) (λbu=>cj g R (m+1000) bu) ?_ ?_;refine aK ?_;refine aj (λj=>?_) (λj=>?_);have I:=j
 simp only[bU] at j
 refine ar ?_;refine ev rfl ((b1 I)) ?_;refine ah ?_;refine gX rfl wJ rfl (λb o=>yt b g par X T o f a aa _) (λT a=>?_);refine ar ?_;exact dr T (a.mono aa) bO (λ_ h=>h);have I:=j
 simp only[bU] at j
 refine ay ?_;refine aj (λaH=>?_) (λaH=>?_);have S:=aH
 simp only[bU] at aH
 refine ah ?_;refine gX rfl wJ rfl (λb o=>yt b g par X T o f a aa _) (λT a=>?_);refine ar ?_;exact dr T (a.mono aa) bO (λ_ h=>h);have S:=aH
 simp only[bU] at aH
 refine al ?_;refine aj (λk=>?_) (λk=>?_);have U:=k
 simp only[bU] at k
 refine al ?_;refine aj (λV=>?_) (λV=>?_);refine ar ?_;refine gX rfl Eq rfl (λb o=>I1 b g par X T o v a aa _) (λT a=>?_);refine ar ?_;exact dr T (a.mono aa) bO (λ_ h=>h);refine ar ?_;exact dr T (a.mono aa) bO (λ_ h=>h);have U:=k
 simp only[bU] at k
 refine aC ?_;refine aj (λl=>?_) (λl=>?_);have J:=l
 simp only[bU] at l
 refine ar ?_;refine ev rfl ((b1 J)) ?_;refine ay ?_;refine gX rfl wK rfl (λb o=>yq b g par X T o a aa _ _) (λT a=>?_);refine ar ?_;exact dr T (a.mono aa) bO (λ_ h=>h);have J:=l
 simp only[bU] at l
 refine ay ?_;refine aj (λn=>?_) (λn=>?_);have W:=n
 simp only[bU] at n
 refine ay ?_;refine gX rfl wK rfl (λb o=>yq b g par X T o a aa _ _) (λT a=>?_);refine ar ?_;exact dr T (a.mono aa) bO (λ_ h=>h);have W:=n
 simp only[bU] at n
 refine al ?_;refine aj (λq=>?_) (λq=>?_);have Y:=q
 simp only[bU] at q
 refine al ?_;refine aj (λZ=>?_) (λZ=>?_);refine ar ?_;refine ao rfl M0 rfl (λb i=>cS.TA b (v b (i.has eY)).it) ?_;refine gX rfl nc rfl (λb o=>nS b g par X T o a _ aa a1) (λT a=>?_);refine ar ?_;exact dr T (a.mono aa) bO (λ_ h=>h);refine ar ?_;exact dr T (a.mono aa) bO (λ_ h=>h);have Y:=q
 simp only[bU] at q
 refine al ?_;refine aj (λs=>?_) (λs=>?_);have Za:=s
 simp only[bU] at s
 have B: ∀p,(dt.qf T.b6 p z).length≤1000:=λp=>I5 _ _ _ aa
 refine aC ?_;refine ao rfl Er rfl (λb i=>dt.H4 b (v b (i.has eY)).it T.b6 a.md _ _ aa) ?_;refine gX rfl nc rfl (λb o=>nS b g par X T o a _ aa (by apply B)) (λT a=>?_);refine ar ?_;exact dr T (a.mono aa) bO (λ_ h=>h);have Za:=s
 simp only[bU] at s
 refine al ?_;refine aj (λt=>?_) (λt=>?_);have Zb:=t
 simp only[bU] at t
 have B: ∀p,(dt.qf T.b6 p z).length≤1000:=λp=>I5 _ _ _ aa
 refine aC ?_;refine ao rfl Er rfl (λb i=>dt.H4 b (v b (i.has eY)).it T.b6 a.md _ _ aa) ?_;refine gX rfl nc rfl (λb o=>nS b g par X T o a _ aa (by apply B)) (λT a=>?_);refine ar ?_;exact dr T (a.mono aa) bO (λ_ h=>h);have Zb:=t
 simp only[bU] at t
 refine al ?_;refine aj (λu=>?_) (λu=>?_);have Zc:=u
 simp only[bU] at u
 refine ar ?_;refine gX rfl M1 rfl (λb o=>UZ b g par X T o a) (λT a=>?_);refine ar ?_;exact dr T (a.mono aa) bO (λ_ h=>h);have Zc:=u
 simp only[bU] at u
 refine ar ?_;exact dr T (a.mono aa) bO (λ_ h=>h);intro T a;refine aC ?_;refine aV 74 rfl (λC=>?_) (λC=>?_);have Zd:=aY C
 refine aK ?_;refine aV 79 rfl (λD=>?_) (λD=>?_);have Ze:=aY D
 refine ay ?_;refine I4 rfl M2 rfl (λb o=>U8 b g par X T o f a aa) (λZq T a=>?_);refine aS ?_;refine aV 85 rfl (λZf=>?_) (λZf=>?_);refine ay ?_;refine I4 rfl M3 rfl (λb o=>Vb b g par X T o f a aa) (λZr T a=>?_);refine ay ?_;refine b2 rfl (λF=>?_) (λF=>?_);simp only[bU] at F
 refine aS ?_;refine gX rfl M4 rfl (λb o=>Vd b g par X T o f a aa _) (λT a=>?_);refine ar ?_;intro x d;exact aN T (a.mono aa) d;simp only[bU] at F
 refine ar ?_;intro x d;exact aN T (a.mono aa) d;refine aR ?_;intro x d;exact aN T (a.mono aa) d;have Ze:=a8 D
 refine dB ?_;intro x d;exact aN T (a.mono aa) d;have Zd:=a8 C
 refine gN ?_;intro x d;exact aN T (a.mono aa) d
end
end Go.Proofs.YtkeokgcdnfjaaaaGreatDoor.Mq
