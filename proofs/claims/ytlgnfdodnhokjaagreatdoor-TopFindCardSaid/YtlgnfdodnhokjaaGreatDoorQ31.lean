/- part 31 of the proof -/
import Derived.Test.YtlgnfdodnhokjaaGreatDoorQ30
namespace Go.Proofs.YtlgnfdodnhokjaaGreatDoor.Mq
open Go Go.RowKit Go.Proofs Tryz
structure mn [Inhabited bO] (X:Chunk) (e:dT):Prop where
 ps:vR X
 rd: ∀w,X.pred w→ct.d9 w (· ∈X.ch) e.nums.A e.nums.n e.nums.c e.nums.gs
 ok:mb e
def mo (s:List UInt8):Int:=if s=[40] then 0 else if s=[41] then 1 else if s=[42] then 2 else if s=[43] then 3 else -1
theorem V2 (s:List UInt8):mo s=0∨mo s=1∨mo s=2∨mo s=3∨mo s= -1:=by
 unfold mo;repeat' split
 all_goals omega
theorem vU (w:World) (s:List UInt8):Calls prog 229 [.string (bs s)].toArray w (Pure (.int .i64 (mo s)) w):=by
 refine aV func229 ntmps229 ?_;refine eR ?_;refine aj (λc=>?_) (λc=>?_);refine aJ ?_;intro b a;exact⟨by unfold mo;simp_all,a.ext⟩;refine al ?_;refine aj (λaH=>?_) (λaH=>?_);refine aJ ?_;intro b a;exact⟨by unfold mo;simp_all,a.ext⟩;refine al ?_;refine aj (λd=>?_) (λd=>?_);refine aJ ?_;intro b a;exact⟨by unfold mo;simp_all,a.ext⟩;refine al ?_;refine aj (λe=>?_) (λe=>?_);refine aJ ?_;intro b a;exact⟨by unfold mo;simp_all,a.ext⟩;refine aQ ?_;intro b a;exact⟨by unfold mo;simp_all,a.ext⟩
theorem yP [Inhabited bO] (w:World) (c:fZ) (s:List UInt8) (b:Int):Calls prog 173 [.agg c.enc.toArray,.string (bs s),.int .u8 b].toArray w (ca (λc:fZ=> .agg c.enc.toArray) (λ_=>True) w):=by
 refine aV func173 ntmps173 ?_;rcases V2 s with ai | ai | ai | ai | ai
 refine ah ?_;intro f g i;refine ar ?_;intro j k l;refine ay ?_;refine ao rfl uM rfl (λe m=>(by have h:=vU e s;rw[ai] at h;exact h)) ?_;refine aJ ?_;refine aW 12 rfl (λn=>?_) (λn=>?_);have E:=aX n
 refine al ?_;refine aW 15 rfl (λaH=>?_) (λaH=>?_);have F:=aX aH
 refine ey ?_;refine dn rfl rfl underlying5 underlying3 rfl ?_;refine ar ?_;refine ds (q:=0) underlying126 jD rfl rfl rfl bc aa ?_;refine bp ?_;intro d a;exact ca.of { c with fC:=IntKind.i64.wrap b } a1 rfl a.ext;have F:=bd aH
 refine aK ?_;refine aW 19 rfl (λo=>?_) (λo=>?_);have G:=aX o
 refine bp ?_;refine dn rfl rfl underlying5 underlying3 rfl ?_;refine ar ?_;refine ds (q:=0) underlying126 jD rfl rfl rfl bc aa ?_;refine bp ?_;intro d a;exact ca.of { c with fC:=IntKind.i64.wrap b } a1 rfl a.ext;have G:=bd o
 refine aJ ?_;refine aj (λH=>?_) (λH=>?_);refine ah ?_;refine dn rfl rfl underlying5 underlying3 rfl ?_;refine ar ?_;refine ds (q:=0) underlying126 jD rfl rfl rfl bc aa ?_;refine bp ?_;intro d a;exact ca.of { c with fC:=IntKind.i64.wrap b } a1 rfl a.ext;refine aQ ?_;intro d a;exact ca.of c a1 rfl a.ext;have E:=bd n
 refine jF ?_;intro d a;exact ca.of c a1 rfl a.ext;refine ah ?_;intro f g i;refine ar ?_;intro j k l;refine ay ?_;refine ao rfl uM rfl (λe m=>(by have h:=vU e s;rw[ai] at h;exact h)) ?_;refine aJ ?_;refine aW 12 rfl (λp=>?_) (λp=>?_);have I:=aX p
 refine al ?_;refine aW 15 rfl (λr=>?_) (λr=>?_);have J:=aX r
 refine ey ?_;refine dn rfl rfl underlying5 underlying3 rfl ?_;refine ar ?_;refine ds (q:=1) underlying126 jD rfl rfl rfl bc aa ?_;refine bp ?_;intro d a;exact ca.of { c with s1:=IntKind.i64.wrap b } a1 rfl a.ext;have J:=bd r
 refine aK ?_;refine aW 19 rfl (λt=>?_) (λt=>?_);have K:=aX t
 refine bp ?_;refine dn rfl rfl underlying5 underlying3 rfl ?_;refine ar ?_;refine ds (q:=1) underlying126 jD rfl rfl rfl bc aa ?_;refine bp ?_;intro d a;exact ca.of { c with s1:=IntKind.i64.wrap b } a1 rfl a.ext;have K:=bd t
 refine aJ ?_;refine aj (λL=>?_) (λL=>?_);refine ah ?_;refine dn rfl rfl underlying5 underlying3 rfl ?_;refine ar ?_;refine ds (q:=1) underlying126 jD rfl rfl rfl bc aa ?_;refine bp ?_;intro d a;exact ca.of { c with s1:=IntKind.i64.wrap b } a1 rfl a.ext;refine aQ ?_;intro d a;exact ca.of c a1 rfl a.ext;have I:=bd p
 refine jF ?_;intro d a;exact ca.of c a1 rfl a.ext;refine ah ?_;intro f g i;refine ar ?_;intro j k l;refine ay ?_;refine ao rfl uM rfl (λe m=>(by have h:=vU e s;rw[ai] at h;exact h)) ?_;refine aJ ?_;refine aW 12 rfl (λu=>?_) (λu=>?_);have M:=aX u
 refine al ?_;refine aW 15 rfl (λv=>?_) (λv=>?_);have N:=aX v
 refine ey ?_;refine dn rfl rfl underlying5 underlying3 rfl ?_;refine ar ?_;refine ds (q:=2) underlying126 jD rfl rfl rfl bc aa ?_;refine bp ?_;intro d a;exact ca.of { c with s2:=IntKind.i64.wrap b } a1 rfl a.ext;have N:=bd v
 refine aK ?_;refine aW 19 rfl (λx=>?_) (λx=>?_);have O:=aX x
 refine bp ?_;refine dn rfl rfl underlying5 underlying3 rfl ?_;refine ar ?_;refine ds (q:=2) underlying126 jD rfl rfl rfl bc aa ?_;refine bp ?_;intro d a;exact ca.of { c with s2:=IntKind.i64.wrap b } a1 rfl a.ext;have O:=bd x
 refine aJ ?_;refine aj (λP=>?_) (λP=>?_);refine ah ?_;refine dn rfl rfl underlying5 underlying3 rfl ?_;refine ar ?_;refine ds (q:=2) underlying126 jD rfl rfl rfl bc aa ?_;refine bp ?_;intro d a;exact ca.of { c with s2:=IntKind.i64.wrap b } a1 rfl a.ext;refine aQ ?_;intro d a;exact ca.of c a1 rfl a.ext;have M:=bd u
 refine jF ?_;intro d a;exact ca.of c a1 rfl a.ext;refine ah ?_;intro f g i;refine ar ?_;intro j k l;refine ay ?_;refine ao rfl uM rfl (λe m=>(by have h:=vU e s;rw[ai] at h;exact h)) ?_;refine aJ ?_;refine aW 12 rfl (λy=>?_) (λy=>?_);have Q:=aX y
 refine al ?_;refine aW 15 rfl (λz=>?_) (λz=>?_);have R:=aX z
 refine ey ?_;refine dn rfl rfl underlying5 underlying3 rfl ?_;refine ar ?_;refine ds (q:=3) underlying126 jD rfl rfl rfl bc aa ?_;refine bp ?_;intro d a;exact ca.of { c with lp:=IntKind.i64.wrap b } a1 rfl a.ext;have R:=bd z
 refine aK ?_;refine aW 19 rfl (λA=>?_) (λA=>?_);have S:=aX A
 refine bp ?_;refine dn rfl rfl underlying5 underlying3 rfl ?_;refine ar ?_;refine ds (q:=3) underlying126 jD rfl rfl rfl bc aa ?_;refine bp ?_;intro d a;exact ca.of { c with lp:=IntKind.i64.wrap b } a1 rfl a.ext;have S:=bd A
 refine aJ ?_;refine aj (λT=>?_) (λT=>?_);refine ah ?_;refine dn rfl rfl underlying5 underlying3 rfl ?_;refine ar ?_;refine ds (q:=3) underlying126 jD rfl rfl rfl bc aa ?_;refine bp ?_;intro d a;exact ca.of { c with lp:=IntKind.i64.wrap b } a1 rfl a.ext;refine aQ ?_;intro d a;exact ca.of c a1 rfl a.ext;have Q:=bd y
 refine jF ?_;intro d a;exact ca.of c a1 rfl a.ext;refine ah ?_;intro f g i;refine ar ?_;intro j k l;refine ay ?_;refine ao rfl uM rfl (λe m=>(by have h:=vU e s;rw[ai] at h;exact h)) ?_;refine aJ ?_;refine aW 12 rfl (λB=>?_) (λB=>?_);have U:=aX B
 refine al ?_;refine aW 15 rfl (λC=>?_) (λC=>?_);have V:=aX C
 refine ey ?_;refine dn rfl rfl underlying5 underlying3 rfl ?_;refine ar ?_;refine ds (q:=0) underlying126 jD rfl rfl rfl aa aa ?_;refine bp ?_;intro d a;exact ca.of { c with fC:=IntKind.i64.wrap b } a1 rfl a.ext;have V:=bd C
 refine aK ?_;refine aW 19 rfl (λD=>?_) (λD=>?_);have W:=aX D
 refine bp ?_;refine dn rfl rfl underlying5 underlying3 rfl ?_;refine ar ?_;refine ds (q:=0) underlying126 jD rfl rfl rfl aa aa ?_;refine bp ?_;intro d a;exact ca.of { c with fC:=IntKind.i64.wrap b } a1 rfl a.ext;have W:=bd D
 refine aJ ?_;refine aj (λX=>?_) (λX=>?_);refine ah ?_;refine dn rfl rfl underlying5 underlying3 rfl ?_;refine ar ?_;refine ds (q:=0) underlying126 jD rfl rfl rfl aa aa ?_;refine bp ?_;intro d a;exact ca.of { c with fC:=IntKind.i64.wrap b } a1 rfl a.ext;refine aQ ?_;intro d a;exact ca.of c a1 rfl a.ext;have U:=bd B
 refine jF ?_;intro d a;exact ca.of c a1 rfl a.ext
theorem V3 [Inhabited bO] (w:World) (g par:Nat) (X:Chunk) (T:bL) (u:a8 w (bz g par X T)) {e:dT} (v:mn X e) {R:Int} {m:Nat} (a:cp g R m T) (y:m≤900000000000):
 Calls prog 121 [ptr g,.agg e.enc.toArray].toArray w (hy g par X R (m+1000) (.tuple #[]) T w):=by
 have z:=v.ps
 refine bI func121 ntmps121 u ?_;refine ah ?_;intro E F G;refine ay ?_;refine ao rfl fh rfl (λb d=>fk b g par T (d.has bJ)) ?_;refine dB ?_;refine aj (λA=>?_) (λA=>?_);refine ay ?_;refine hg rfl NQ rfl (λb o=>V0 b g par X T o z a y e.byte) (λT a=>?_);refine ah ?_;intro f c;exact aN T (a.mono aa) c;refine aC ?_;refine aj (λaH=>?_) (λaH=>?_);have q:=aH
 refine aq ?_;refine eE rfl ((bX q)) ?_;refine bF [0,1,4,5,6,7] 3 [[(2,false,[3]),(8,false,[]),(9,true,[])]] ?_;refine aK ?_;refine ao rfl jf rfl (λb d=>ju b T.am (d.ed (l:=aO T.am) cr Has.head)) ?_;refine ar ?_;refine aL rfl (λi j=>(kd (t:=128) (off:=7) ab lR rfl rfl rfl aG)) ?_;refine aq ?_;refine a6 (l0:=[]) aA.nil rfl w3 rfl (λb _=>yP b ⟨_,_,_,_,_,_⟩ e.inter e.byte) (λc9 _=>?_);refine ah ?_;refine ep (k:=0) a bc rfl ns rfl (λb o x=>n3 o a.am ⟨_,_,_,_,_,_⟩) (λT a ai h=>?_);refine ay ?_;intro f c;exact aN T (a.mono aa) c;have q:=aH
 refine al ?_;refine aj (λn=>?_) (λn=>?_);have r:=n
 refine aq ?_;refine eE rfl ((bX r)) ?_;refine bF [0,1,4,5,6,7] 3 [[(2,false,[3]),(8,false,[]),(9,true,[])]] ?_;refine aK ?_;refine ao rfl jf rfl (λb d=>ju b T.am (d.ed (l:=aO T.am) cr Has.head)) ?_;refine ar ?_;refine aL rfl (λi j=>(kd (t:=128) (off:=7) ab lR rfl rfl rfl aG)) ?_;refine aq ?_;refine a6 (l0:=[]) aA.nil rfl w3 rfl (λb _=>yP b ⟨_,_,_,_,_,_⟩ e.inter e.byte) (λc9 _=>?_);refine ah ?_;refine ep (k:=0) a bc rfl ns rfl (λb o x=>n3 o a.am ⟨_,_,_,_,_,_⟩) (λT a ai h=>?_);refine ay ?_;intro f c;exact aN T (a.mono aa) c;have r:=n
 refine al ?_;refine aj (λp=>?_) (λp=>?_);have s:=p
 refine aq ?_;refine eE rfl ((bX s)) ?_;refine bF [0,1,4,5,6,7] 3 [[(2,false,[3]),(8,false,[]),(9,true,[])]] ?_;refine aK ?_;refine ao rfl jf rfl (λb d=>ju b T.am (d.ed (l:=aO T.am) cr Has.head)) ?_;refine ar ?_;refine aL rfl (λi j=>(kd (t:=128) (off:=7) ab lR rfl rfl rfl aG)) ?_;refine aq ?_;refine a6 (l0:=[]) aA.nil rfl w3 rfl (λb _=>yP b ⟨_,_,_,_,_,_⟩ e.inter e.byte) (λc9 _=>?_);refine ah ?_;refine ep (k:=0) a bc rfl ns rfl (λb o x=>n3 o a.am ⟨_,_,_,_,_,_⟩) (λT a ai h=>?_);refine ay ?_;intro f c;exact aN T (a.mono aa) c;have s:=p
 refine ay ?_;refine aj (λB=>?_) (λB=>?_);refine bF [0,1,4,5,6,7] 3 [[(2,false,[3]),(8,false,[]),(9,true,[])]] ?_;refine aK ?_;refine ao rfl jf rfl (λb d=>ju b T.am (d.ed (l:=aO T.am) cr Has.head)) ?_;refine ar ?_;refine aL rfl (λi j=>(kd (t:=128) (off:=7) ab lR rfl rfl rfl aG)) ?_;refine aq ?_;refine a6 (l0:=[]) aA.nil rfl w3 rfl (λb _=>yP b ⟨_,_,_,_,_,_⟩ e.inter e.byte) (λc9 _=>?_);refine ah ?_;refine ep (k:=0) a bc rfl ns rfl (λb o x=>n3 o a.am ⟨_,_,_,_,_,_⟩) (λT a ai h=>?_);refine ay ?_;intro f c;exact aN T (a.mono aa) c;refine al ?_;refine aj (λC=>?_) (λC=>?_);refine aC ?_;refine aj (λD=>?_) (λD=>?_);refine aq ?_;refine ep (k:=0) a bc rfl NR rfl (λb o x=>TP b T.am o a.am.g a.am.ok) (λT a ai h=>?_);refine ah ?_;intro f c;exact aN T (a.mono aa) c;refine ah ?_;intro f c;exact aN T (a.mono aa) c;refine ah ?_;intro f c;exact aN T (a.mono aa) c
theorem ct.V4 (w:World) (F:Nat→Prop) (A:Option Addr) (n c:Nat) (gs:List (List Int)) (a:ct.d9 w F A n c gs) (b:n≤1000000) (d: ∀g∈gs,g.length≤1000000) (i:Int):
 Calls prog 245 [.slice A n c,.int .i64 i].toArray w (λe w'=>e= .returned (.int .i64 (max 1 (ct.pc gs i 1)))∧Ext [] w w'):=by
 refine aV func245 ntmps245 ?_;refine aJ ?_;refine ao rfl uL rfl (λw' f=>ct.H7 w' F A n c gs (a.ext f.ext av) b d i 1) ?_;refine al ?_;intro j h;exact⟨rfl,h.ext⟩
theorem JN (gs:List (List Int)) (i u:Int) (d: -1≤u∧u≤65535): -1≤ct.pc gs i u∧ct.pc gs i u≤65535:=by
 have b:=Iy gs
 have e: -1≤ct.mX (ct.fy gs) i∧ct.mX (ct.fy gs) i≤65535:=by
  unfold ct.mX;split
  unfold ct.vA;generalize a: (ct.fy gs).getD i.toNat []=g
  cases g with
  | nil=>simp
  | cons x t=>
   have c: (x::t)∈ct.fy gs:=by
    rw[←a,fI];cases h: (ct.fy gs)[i.toNat]? with
    | none=>rw[fI,h] at a;cases a
    | some y=>exact da h
   exact (b.2 _ c).2.2 x List.mem_cons_self
  omega
 unfold ct.pc;split <;> omega
theorem pf.vI {x:kQ} (h:pf x): ∀g∈x.gs,g.length≤1000000:=λg a=>by have:=h.g g a;omega
theorem yQ [Inhabited bO] (w:World) (F:Nat→Prop) (A:Option Addr) (n c:Nat) {x:kQ} (a:ct.d9 w F A n c x.gs) (b:pf x) (i u:Int) (d: -1≤u∧u≤65535):
 Calls prog 175 [.slice A n c,.int .i64 i,.int .i64 u].toArray w (ca (λv:Int=> .int .i64 v) (λv=> -1≤v∧v≤65535) w):=
 (ct.H7 w F A n c x.gs a (by have:=a.len;have:=b.n;omega) b.vI i u).mono (λ_ _ ⟨e,f⟩=>by rw[e];exact ca.of _ (JN x.gs i u d) rfl f)
theorem vV [Inhabited bO] (w:World) (F:Nat→Prop) (A:Option Addr) (n c:Nat) {x:kQ} (a:ct.d9 w F A n c x.gs) (b:pf x) (i:Int):
 Calls prog 245 [.slice A n c,.int .i64 i].toArray w (ca (λv:Int=> .int .i64 v) (λv=>1≤v∧v≤65535) w):=
 (ct.V4 w F A n c x.gs a (by have:=a.len;have:=b.n;omega) b.vI i).mono (λ_ _ ⟨d,e⟩=>by rw[d];exact ca.of _ (by have:=JN x.gs i 1 aZ;omega) rfl e)
def CF {ι:Type} (Q:cq) (fr:ι→Fr) (fK:ι→World→Prop) (ok:ι→Prop):cq
 | .normal,l,w=> ∃i,ok i∧Sub l (fr i)∧fK i w
 | e,l,w=>Q e l w
theorem iv {ι:Type} {Q:cq} {fr:ι→Fr} {fK:ι→World→Prop} {ok:ι→Prop} {l:Fr} {H:World→Prop} (i:ι) (a:ok i) (b:Sub l (fr i)) (c: ∀w,H w→fK i w):dS (CF Q fr fK ok) .normal l H:=λw d=>⟨i,a,b,c w d⟩
theorem CG {ι:Type} {Q:cq} {fr:ι→Fr} {fK:ι→World→Prop} {ok:ι→Prop} {l:Fr} {H:World→Prop} (h:dS Q .ret l H):dS (CF Q fr fK ok) .ret l H:=λw a=>h w a
theorem JO {P:Program} {n:Nat} {Q:cq} {l:Fr} {H:World→Prop} {c:Code} {ι:Type} (fr:ι→Fr) (fK:ι→World→Prop) (ok:ι→Prop) (h:dc P n c (CF Q fr fK ok) l H) (f: ∀i,ok i→dS Q .normal (fr i) (fK i)):dc P n c Q l H:=by
 intro w g a j;refine wp_mono (h w g a j) ?_;rintro e a w ⟨l1,b,d⟩;cases e with
 | normal=>
  obtain⟨i,k,m,o⟩:=d;exact⟨fr i,b.sub m,f i k w o⟩
 | _=>exact⟨l1,b,d⟩
def CH (g par:Nat) (X:Chunk) (R:Int) (m:Nat) (T:bL) (w:World):Ending→World→Prop:=aP (λi:Bool × bL=> .bool i.1) (bz g par X T) (λi=>bz g par X i.2) (λi=>cp g R m i.2) w
set_option maxHeartbeats 1000000 in
theorem V5 [Inhabited bO] (w:World) (g par:Nat) (X:Chunk) (T:bL) (S:a8 w (bz g par X T)) {e:dT} (j:mn X e) {R:Int} {m:Nat} (a:cp g R m T) (Zi:m≤900000000000):
 Calls prog 183 [ptr g,.agg e.enc.toArray].toArray w (CH g par X R (m+1000) T w):=by
 have I:=j.ps
 have Zj:=a.am.ok.nums
 have Zk:0≤T.am.x∧T.am.x≤1000:=by have Zl:=a.am.ok.x;have Zm:=a.am.ok.nums.2.1;simp only[bl.abs,be.cols] at *;omega
 refine bI func183 ntmps183 S ?_;refine ah ?_;intro J Zn Zo;refine al ?_;refine ao rfl fh rfl (λb c=>fk b g par T (c.has bJ)) ?_;refine aS ?_;refine bF [0,1,3,4] 2 [[(2,false,[]),(5,false,[6,7])]] ?_;refine al ?_;refine a6 (l0:=[]) aA.nil rfl uO rfl (λb c=>vV b _ _ _ _ (j.rd b (c.has e4)) j.ok.nums _) (λZp Zq=>?_);refine ah ?_;refine a6 (l0:=[]) aA.nil rfl uO rfl (λb c=>vV b _ _ _ _ (j.rd b (c.has e4)) j.ok.nums _) (λZr Zs=>?_);refine bH ?_;refine JO (λ_:bL=>[(0,ptr g),(3,ptr J),(5,ptr T.am.g)]) (λbu=>af w (aB (bz g par X T)) (aD J e.enc 171::bz g par X bu)) (λbu=>cp g R (m+10) bu∧(e.byte=69∨e.byte=70→T.am.g=bu.am.g)) ?_ ?_;refine aK ?_;refine aj (λn=>?_) (λn=>?_);have K:=n
 refine aq ?_;refine eE rfl ((bX K)) ?_;refine ah ?_;refine oG rfl rfl (wrap64 aa aa) ?_;refine ep (k:=0) a bc rfl nv rfl (λb o x=>n2 o a.am _ _) (λT a ai d=>?_);refine aq ?_;exact iv T ⟨a.mono aa,λh=>by exact ai⟩ bR (λ_ h=>h);have K:=n
 refine ay ?_;refine aj (λaH=>?_) (λaH=>?_);have U:=aH
 refine ah ?_;refine oG rfl rfl (wrap64 aa aa) ?_;refine ep (k:=0) a bc rfl nv rfl (λb o x=>n2 o a.am _ _) (λT a ai d=>?_);refine aq ?_;exact iv T ⟨a.mono aa,λh=>by exact ai⟩ bR (λ_ h=>h);have U:=aH
 refine aC ?_;refine aj (λp=>?_) (λp=>?_);have L:=p
 refine aq ?_;refine eE rfl ((bX L)) ?_;refine ah ?_;refine ep (k:=0) a bc rfl nv rfl (λb o x=>n2 o a.am _ _) (λT a ai d=>?_);refine aq ?_;exact iv T ⟨a.mono aa,λh=>by exact ai⟩ bR (λ_ h=>h);have L:=p
 refine al ?_;refine aj (λq=>?_) (λq=>?_);have M:=q
 refine aq ?_;refine eE rfl ((bX M)) ?_;refine ah ?_;refine ep (k:=0) a bc rfl nv rfl (λb o x=>n2 o a.am _ _) (λT a ai d=>?_);refine aq ?_;exact iv T ⟨a.mono aa,λh=>by exact ai⟩ bR (λ_ h=>h);have M:=q
 refine ay ?_;refine aj (λr=>?_) (λr=>?_);have V:=r
 refine ah ?_;refine ep (k:=0) a bc rfl nv rfl (λb o x=>n2 o a.am _ _) (λT a ai d=>?_);refine aq ?_;exact iv T ⟨a.mono aa,λh=>by exact ai⟩ bR (λ_ h=>h);have V:=r
 refine aC ?_;refine aj (λs=>?_) (λs=>?_);have N:=s
 refine aq ?_;refine eE rfl ((bX N)) ?_;refine ah ?_;refine ep (k:=0) a bc rfl nv rfl (λb o x=>n2 o a.am _ _) (λT a ai d=>?_);refine aq ?_;exact iv T ⟨a.mono aa,λh=>by exact ai⟩ bR (λ_ h=>h);have N:=s
 refine ay ?_;refine aj (λt=>?_) (λt=>?_);have W:=t
 refine ah ?_;refine ep (k:=0) a bc rfl nv rfl (λb o x=>n2 o a.am _ _) (λT a ai d=>?_);refine aq ?_;exact iv T ⟨a.mono aa,λh=>by exact ai⟩ bR (λ_ h=>h);have W:=t
 refine al ?_;refine aj (λu=>?_) (λu=>?_);have Y:=u
 refine ah ?_;refine oG rfl rfl (wrap64 aa aa) ?_;refine ep (k:=0) a bc rfl nv rfl (λb o x=>n2 o a.am _ _) (λT a ai d=>?_);refine aq ?_;exact iv T ⟨a.mono aa,λh=>by exact ai⟩ bR (λ_ h=>h);have Y:=u
 refine aC ?_;refine aj (λv=>?_) (λv=>?_);have O:=v
 refine aq ?_;refine eE rfl ((bX O)) ?_;refine ay ?_;refine ao rfl q9 rfl (λb c=>rL b g par T (c.has bJ) (c.ed (l:=aO T.am) cr Has.head) (c.ed (l:=aO T.am) cr (Has.tail Has.head)) a.am.ok.nums.2.1) ?_;refine ar ?_;refine ep (k:=0) a bc rfl nv rfl (λb o x=>n2 o a.am _ _) (λT a ai d=>?_);refine aq ?_;exact iv T ⟨a.mono aa,λh=>by exact ai⟩ bR (λ_ h=>h);have O:=v
 refine ay ?_;refine aj (λy=>?_) (λy=>?_);have Z:=y
 refine ay ?_;refine ao rfl q9 rfl (λb c=>rL b g par T (c.has bJ) (c.ed (l:=aO T.am) cr Has.head) (c.ed (l:=aO T.am) cr (Has.tail Has.head)) a.am.ok.nums.2.1) ?_;refine ar ?_;refine ep (k:=0) a bc rfl nv rfl (λb o x=>n2 o a.am _ _) (λT a ai d=>?_);refine aq ?_;exact iv T ⟨a.mono aa,λh=>by exact ai⟩ bR (λ_ h=>h);have Z:=y
 refine al ?_;refine aj (λz=>?_) (λz=>?_);have Za:=z
 refine ay ?_;refine ao rfl q9 rfl (λb c=>rL b g par T (c.has bJ) (c.ed (l:=aO T.am) cr Has.head) (c.ed (l:=aO T.am) cr (Has.tail Has.head)) a.am.ok.nums.2.1) ?_;refine ep (k:=0) a bc rfl pQ rfl (λb o x=>rD o a.am _ _) (λT a ai d=>?_);refine aq ?_;exact iv T ⟨a.mono aa,λh=>by exact ai⟩ bR (λ_ h=>h);have Za:=z
 refine aC ?_;refine aj (λA=>?_) (λA=>?_);have P:=A
 refine aq ?_;refine eE rfl ((bX P)) ?_;refine al ?_;refine ep (k:=0) a bc rfl pQ rfl (λb o x=>rD o a.am _ _) (λT a ai d=>?_);refine aq ?_;exact iv T ⟨a.mono aa,λh=>by exact ai⟩ bR (λ_ h=>h);have P:=A
 refine ay ?_;refine aj (λB=>?_) (λB=>?_);have Zb:=B
 refine al ?_;refine ep (k:=0) a bc rfl pQ rfl (λb o x=>rD o a.am _ _) (λT a ai d=>?_);refine aq ?_;exact iv T ⟨a.mono aa,λh=>by exact ai⟩ bR (λ_ h=>h);have Zb:=B
 refine al ?_;refine aj (λC=>?_) (λC=>?_);have Zc:=C
 refine ah ?_;refine ep (k:=0) a bc rfl z7 rfl (λb o x=>Ce o a.am (λw' h=>(I w' (x w' h)).yL) _) (λT a ai d=>?_);refine aq ?_;exact iv T ⟨a.mono aa,λh=>by exact ai⟩ bR (λ_ h=>h);have Zc:=C
 refine al ?_;refine aj (λD=>?_) (λD=>?_);have Zd:=D
 refine ah ?_;refine oG rfl rfl (wrap64 aa aa) ?_;refine ep (k:=0) a bc rfl z7 rfl (λb o x=>Ce o a.am (λw' h=>(I w' (x w' h)).yL) _) (λT a ai d=>?_);refine aq ?_;exact iv T ⟨a.mono aa,λh=>by exact ai⟩ bR (λ_ h=>h);have Zd:=D
 refine al ?_;refine aj (λE=>?_) (λE=>?_);have Ze:=E
 refine aq ?_;refine ep (k:=0) a bc rfl sC rfl (λb o x=>tH o a.am) (λT a ai d=>?_);refine aq ?_;exact iv T ⟨a.mono aa,λh=>by exact ai⟩ bR (λ_ h=>h);have Ze:=E
 refine al ?_;refine aj (λF=>?_) (λF=>?_);have Zf:=F
 refine aq ?_;refine hg rfl lS rfl (λb o=>mm b g par X T o a) (λT a=>?_);refine aq ?_;exact iv T ⟨a.mono aa,λh=>by (exfalso;omega)⟩ bR (λ_ h=>h);have Zf:=F
 refine aC ?_;refine CG (wF ?_);refine ar ?_;intro G i;exact aN (false,T) (a.mono aa) i;rintro bu ⟨f,Q⟩;refine aK ?_;refine aW 93 rfl (λH=>?_) (λH=>?_);have Zg:=aX H
 refine aJ ?_;refine ep (k:=0) f (Q aa) rfl q8 rfl (λb o x=>tG o f.am) (λbu f ai d=>?_);refine aJ ?_;intro G i;exact aN (true,bu) (f.mono aa) i;have Zg:=bd H
 refine aJ ?_;refine aj (λZh=>?_) (λZh=>?_);refine aq ?_;refine ep (k:=0) f (Q aa) rfl q8 rfl (λb o x=>tG o f.am) (λbu f ai d=>?_);refine aJ ?_;intro G i;exact aN (true,bu) (f.mono aa) i;refine aJ ?_;intro G i;exact aN (true,bu) (f.mono aa) i
section
structure tY where
 A:Option Addr
 n:Nat
 c:Nat
 lo:Nat
 hi:Nat
 l:List Int
abbrev tY.val (x:tY):Value:= .slice x.A x.n x.c
def tY.aF (x:tY):Chunk:=rz x.lo x.hi (λw=>Rd ct.bT w (λk=>x.lo≤k∧k<x.hi) x.A x.n x.c x.l) (λ_ _ b h=>Rd.loc h (λk a=>b k a.1 a.2))
theorem V6 [Inhabited bO] (w:World) (F:Nat→Prop) (A:Option Addr) (n c:Nat) {x:kQ} (b:ct.d9 w F A n c x.gs) (d:pf x):
 Calls prog 235 [.slice A n c].toArray w (fi (λi:tY=>i.val) tY.aF (λi=>i.l.length=i.n∧i.n≤32∧(0<i.n→ ∃bY,i.A=some bY)) w):=by
 refine (ct.Ti w F A n c x.gs b (by have:=b.len;have:=d.n;omega) d.vI).mono ?_;rintro e w' ⟨f,g,c',rfl,h,a⟩;have q: (ct.vB x.gs).length≤32:=by rw[ct.vB,cB];exact ct.BB x.gs
 have j:=a.len
 exact⟨⟨f,g,c',w.heap.size,w'.heap.size,ct.vB x.gs⟩,⟨j,by dsimp only;omega,λm=>by obtain⟨bY,o,_⟩:=a.cells m;exact⟨bY,o⟩⟩,rfl,h,⟨λ_=>bW _,a.hI aZ⟩,λk p=>(ot.1 p).1,yk _ _ _ _⟩
section
variable {P:Program} {n:Nat} {ops:Array Oper} {Q:cq} {rest:List Oper} {l:Fr} {d:Nat} {ty:TypeId} {pos:String} {a7:Array Edge}
variable {b:World} {S:List Nat} {args:List Operand} {db:Array TypeId} {f:FuncId} {vs:List Value} {v:Value} {g par k m p:Nat} {R:Int} {T:bL} {X e7:Chunk}
theorem V7 (e:cp g R m T) (ak:Nat.blt d n=true) (i:ad P f) (j:cI l args=some vs)
 (o: ∀w,af b S (e7::bz g par X T) w→Calls P f vs.toArray w (dY k T.am v w))
 (h: ∀bu:bL,cp g R (m+k) bu→kV T bu→az P n ops Q rest ((d,v)::l) (af b S (e7::bz g par X bu))):
 az P n ops Q (⟨some d,.call ⟨.value (.func f),args.toArray,db⟩,ty,pos,a7,none⟩::rest) l (af b S (e7::bz g par X T)):=by
 refine kM (l0:=aO T.am) (l':=aO) (cs1:=λz=>[e7,eN g par T,aR (aO z),aR (aO T.bk),T.buf.au,T.aF.au,X]) (λz=>bn.tail (bn.tail bn.head)) ak i j o (λz a=>?_);have c:=h { T with am:=z } (e.rB a) ⟨rfl,a.g,rfl⟩
 simp only[bz] at c
 rw[rC a.g] at c
 exact c
end
theorem V8 [Inhabited bO] {b w:World} {S:List Nat} {e7 X:Chunk} {g par p:Nat} {T:bL} {R:Int} {m:Nat} {e:dT} (a:mn X e) (d:cp g R m T) (ai:p=T.am.g) (h:af b S (e7::bz g par X T) w):Calls prog 255 [ptr p,e.nums.val].toArray w (dY 0 T.am (.tuple #[]) w):=by
 subst ai;refine TU w T.am (h.kL (Has.tail (Has.tail Has.head))) d.am.g e.nums.A e.nums.n e.nums.c e.nums.gs ⟨(a.rd w (h.has e4)).dC (λk f=>?_),a.ok.nums.n,a.ok.nums.g⟩;have:=h.apart (l:=[aR (aO T.am)]) ae (c:=X) kz k f
 simpa [aB,aR] using this
theorem V9 [Inhabited bO] (w:World) (g par:Nat) (X:Chunk) (T:bL) (l:a8 w (bz g par X T)) {e:dT} (h:mn X e) {R:Int} {m:Nat} (a:cp g R m T) (C:m≤900000000000):
 Calls prog 184 [ptr g,.agg e.enc.toArray].toArray w (CH g par X R (m+3000000) T w):=by
 have D:=h.ps
 refine bI func184 ntmps184 l ?_;refine ah ?_;intro E F G;refine al ?_;refine ao rfl fh rfl (λb f=>fk b g par T (f.has bJ)) ?_;refine aC ?_;refine a6 (l0:=[]) aA.nil rfl uO rfl (λb f=>vV b _ _ _ _ (h.rd b (f.has e4)) h.ok.nums _) (λH I=>?_);refine ey ?_;refine aj (λn=>?_) (λn=>?_);refine ah ?_;refine ep (k:=0) a bc rfl Oh rfl (λb o x=>Ua o a.am _) (λT a ai i=>?_);refine aQ ?_;intro d c;exact aN (true,T) (a.mono aa) c;refine aC ?_;refine aj (λaH=>?_) (λaH=>?_);have j:=aH
 refine aq ?_;refine eE rfl ((bX j)) ?_;refine bF [0,1,2,3,4] 2 [[(5,false,[]),(6,true,[])]] ?_;refine aC ?_;refine a6 (l0:=[]) aA.nil rfl uL rfl (λb f=>yQ b _ _ _ _ (h.rd b (f.has e4)) h.ok.nums _ _ aZ) (λp q=>?_);refine ah ?_;refine hg rfl w5 rfl (λb o=>yO b g par X T o a aa _ _) (λT a=>?_);refine bx ?_;intro d c;exact aN (true,T) (a.mono aa) c;have j:=aH
 refine ay ?_;refine aj (λr=>?_) (λr=>?_);refine bF [0,1,2,3,4] 2 [[(5,false,[]),(6,true,[])]] ?_;refine aC ?_;refine a6 (l0:=[]) aA.nil rfl uL rfl (λb f=>yQ b _ _ _ _ (h.rd b (f.has e4)) h.ok.nums _ _ aZ) (λp q=>?_);refine ah ?_;refine hg rfl w5 rfl (λb o=>yO b g par X T o a aa _ _) (λT a=>?_);refine bx ?_;intro d c;exact aN (true,T) (a.mono aa) c;refine al ?_;refine aj (λs=>?_) (λs=>?_);refine ah ?_;refine ep (k:=2000) a bc rfl Oi rfl (λb o x=>Ud o a.am (by have:=a.bf;omega) _) (λT a ai i=>?_);refine aQ ?_;intro d c;exact aN (true,T) (a.mono aa) c;refine al ?_;refine aj (λt=>?_) (λt=>?_);refine ah ?_;refine ep (k:=2000) a bc rfl Oj rfl (λb o x=>Ue o a.am (by have:=a.bf;omega) _) (λT a ai i=>?_);refine aQ ?_;intro d c;exact aN (true,T) (a.mono aa) c;refine al ?_;refine aj (λu=>?_) (λu=>?_);refine ah ?_;refine ep (k:=0) a bc rfl Ok rfl (λb o x=>Ub o a.am _) (λT a ai i=>?_);refine aQ ?_;intro d c;exact aN (true,T) (a.mono aa) c;refine al ?_;refine aj (λv=>?_) (λv=>?_);refine ah ?_;refine ep (k:=2000) a bc rfl E5 rfl (λb o x=>IL o a.am (by have:=a.bf;omega) _) (λT a ai i=>?_);refine aQ ?_;intro d c;exact aN (true,T) (a.mono aa) c;refine al ?_;refine aj (λy=>?_) (λy=>?_);refine ah ?_;refine oG rfl rfl (wrap64 aa aa) ?_;refine ep (k:=2000) a bc rfl E5 rfl (λb o x=>IL o a.am (by have:=a.bf;omega) _) (λT a ai i=>?_);refine aQ ?_;intro d c;exact aN (true,T) (a.mono aa) c;refine al ?_;refine aj (λz=>?_) (λz=>?_);refine ah ?_;refine ep (k:=0) a bc rfl Ol rfl (λb o x=>Uc o a.am _) (λT a ai i=>?_);refine aQ ?_;intro d c;exact aN (true,T) (a.mono aa) c;refine al ?_;refine aj (λA=>?_) (λA=>?_);refine ah ?_;refine ep (k:=2000000) a bc rfl Om rfl (λb o x=>Uf o a.am (by have:=a.bf;omega) _) (λT a ai i=>?_);refine aQ ?_;intro d c;exact aN (true,T) (a.mono aa) c;refine al ?_;refine aj (λB=>?_) (λB=>?_);refine aS ?_;refine V7 (k:=0) a rfl On rfl (λb f=>V8 h a bc f) (λT a i=>?_);refine aQ ?_;intro d c;exact aN (true,T) (a.mono aa) c;refine aJ ?_;intro d c;exact aN (false,T) (a.mono aa) c
theorem yR [Inhabited bO] (w:World) (g par:Nat) (X:Chunk) (T:bL) (k:a8 w (bz g par X T)) {e:dT} (c:mn X e) {R:Int} {m:Nat} (a:cp g R m T) (F:m≤800000000000) (p:Bool):
 Calls prog 176 [ptr g,.bool p,.agg e.enc.toArray].toArray w (hy g par X R (m+100) (.tuple #[]) T w):=by
 have G:=c.ps
 refine bI func176 ntmps176 k ?_;refine ah ?_;intro d H I;refine al ?_;refine gp rfl Od rfl (λb r=>V6 b _ _ _ _ (c.rd b (r.has e4)) c.ok.nums) (λz s=>?_);refine ay ?_;obtain⟨J,K,u⟩:=s;refine b2 (ι:=Nat × bL) (λt=>[(0,ptr g),(1,.bool p),(5,ptr d),(10,z.val),(11,.int .i64 (z.n:Int)),(12,.int .i64 (t.1 :Int))]) (λt=>af w (aB (bz g par X T)) (z.aF::aD d e.enc 171::bz g par X t.2)) (λt=>t.1≤z.n∧cp g R (m+t.1) t.2) (λt=>z.n - t.1) ?_ ?_;exact λw' x=>⟨(0,T),⟨bP _,a⟩,(ip rfl rfl rfl rfl rfl rfl),x⟩
 rintro⟨i,T⟩ ⟨hi,a⟩;dsimp only at hi a ⊢
 refine al ?_;refine aj (λy=>?_) (λy=>?_);obtain⟨v,A⟩ : ∃v,z.l[i]? = some v:=⟨z.l[i]'aa,bE _⟩;obtain⟨bY,f⟩:=u aa;refine al ?_;refine bC (q:=i) dL rfl rfl rfl f rfl aa ?_;refine a_ (v:= .int .i64 v) bN rfl rfl (λB C=>by obtain⟨L,j,_,D⟩:=((C.has aT:z.aF.pred B).2).at_ A;rw[f] at j;cases j;exact D 0 _ rfl) ?_;refine aQ ?_;refine JG rfl Oe rfl (λb o=>V1 b g par X T o a aa _ _ _) (λT a=>?_);refine aC ?_;exact bi (i+1,T) ⟨aa,a⟩ bm bR (λ_ h=>h);refine ay ?_;intro M E;exact aN T (a.mono aa) E
end
section
theorem V_ [Inhabited bO] (y x:Int): (cU.yx (cU.e0 y) (cU.e0 x)).length≤1000:=by
 have a:=tV (cU.e0 y) (by have:=cU.mf y;omega)
 have b:=tV (cU.e0 x) (by have:=cU.mf x;omega)
 unfold cU.yx;simp
 omega
theorem Wa [Inhabited bO] (w:World) (g par:Nat) (X:Chunk) (T:bL) (C:a8 w (bz g par X T)) {e:dT} (h:mn X e) {R:Int} {m:Nat} (b:cp g R m T) (U:m≤800000000000) (k:Int):
 Calls prog 185 [ptr g,.agg e.enc.toArray,.int .i64 k].toArray w (hy g par X R (m+1000) (.tuple #[]) T w):=by
 have i:=h.ps
 have D:=V_
 have V:=b.am.ok.nums
 have W:0≤T.am.x∧T.am.x≤1000:=by have Y:=b.am.ok.x;have Z:=b.am.ok.nums.2.1;simp only[bl.abs,be.cols] at *;omega
 refine bI func185 ntmps185 C ?_;refine ah ?_;intro Za Zb Zc;refine ay ?_;refine ao rfl fh rfl (λa c=>fk a g par T (c.has bJ)) ?_;refine al ?_;refine ao rfl kw rfl (λa c=>kI a T.am (c.ed (l:=aO T.am) cr Has.head)) ?_;refine dB ?_;refine aj (λj=>?_) (λj=>?_);have E:=j
 refine al ?_;refine aj (λaH=>?_) (λaH=>?_);refine aq ?_;refine ao rfl E2 rfl (λa c=>cU.IY a (i a (c.has e4)).it) ?_;refine hg rfl nt rfl (λa o=>n_ a g par X T o b _ aa aZ) (λT b=>?_);refine ah ?_;intro f d;exact aN T (b.mono aa) d;refine ah ?_;intro f d;exact aN T (b.mono aa) d;have E:=j
 refine al ?_;refine aj (λn=>?_) (λn=>?_);have F:=n
 refine bx ?_;refine aj (λp=>?_) (λp=>?_);have G:=p
 refine aq ?_;refine ao rfl w6 rfl (λa c=>yf a T.am (c.ed (l:=aO T.am) cr Has.head)) ?_;refine ar ?_;refine ao rfl q9 rfl (λa c=>rL a g par T (c.has bJ) (c.ed (l:=aO T.am) cr Has.head) (c.ed (l:=aO T.am) cr (Has.tail Has.head)) b.am.ok.nums.2.1) ?_;refine JF (k:=0) b rfl EZ rfl (λa o x=>VX o b.am _ aa) (λT b q=>?_);refine aS ?_;intro f d;exact aN T (b.mono aa) d;have G:=p
 refine al ?_;refine aj (λr=>?_) (λr=>?_);have H:=r
 refine aq ?_;refine ao rfl w6 rfl (λa c=>yf a T.am (c.ed (l:=aO T.am) cr Has.head)) ?_;refine JF (k:=0) b rfl Oo rfl (λa o x=>JK o b.am) (λT b q=>?_);refine aS ?_;intro f d;exact aN T (b.mono aa) d;have H:=r
 refine aS ?_;intro f d;exact aN T (b.mono aa) d;have F:=n
 refine aC ?_;refine aj (λs=>?_) (λs=>?_);have B:=s
 refine aq ?_;refine eE rfl ((bX B)) ?_;refine ah ?_;refine hg rfl w4 rfl (λa o=>yR a g par X T o h b aa _) (λT b=>?_);refine ah ?_;intro f d;exact aN T (b.mono aa) d;have B:=s
 refine ay ?_;refine aj (λt=>?_) (λt=>?_);have I:=t
 refine ah ?_;refine hg rfl w4 rfl (λa o=>yR a g par X T o h b aa _) (λT b=>?_);refine ah ?_;intro f d;exact aN T (b.mono aa) d;have I:=t
 refine al ?_;refine aj (λu=>?_) (λu=>?_);have J:=u
 refine bx ?_;refine aj (λv=>?_) (λv=>?_);have K:=v
 refine aq ?_;refine ao rfl Oq rfl (λa c=>cU.Uy a (i a (c.has e4)).it) ?_;refine hg rfl nt rfl (λa o=>n_ a g par X T o b _ aa aZ) (λT b=>?_);refine aS ?_;intro f d;exact aN T (b.mono aa) d;have K:=v
 refine al ?_;refine aj (λy=>?_) (λy=>?_);have L:=y
 refine aq ?_;refine hg rfl ET rfl (λa o=>JM a g par X T o i b aa _) (λT b=>?_);refine aS ?_;intro f d;exact aN T (b.mono aa) d;have L:=y
 refine aS ?_;intro f d;exact aN T (b.mono aa) d;have J:=u
 refine al ?_;refine aj (λz=>?_) (λz=>?_);have M:=z
 refine aS ?_;refine a6 (l0:=[]) aA.nil rfl uL rfl (λa c=>yQ a _ _ _ _ (h.rd a (c.has e4)) h.ok.nums _ _ aZ) (λZd Ze=>?_);refine aQ ?_;refine aj (λN=>?_) (λN=>?_);refine aq ?_;refine ao rfl q6 rfl (λa c=>ri a T.am.ap (c.ed (l:=aO T.am) cr (Has.tail Has.head))) ?_;refine aC ?_;refine a6 (l0:=[]) aA.nil rfl uO rfl (λa c=>vV a _ _ _ _ (h.rd a (c.has e4)) h.ok.nums _) (λO P=>?_);refine ah ?_;refine ep (k:=0) b bc rfl E6 rfl (λa o x=>IJ o b.am _ _) (λT b ai q=>?_);refine ah ?_;intro f d;exact aN T (b.mono aa) d;refine al ?_;refine a6 (l0:=[]) aA.nil rfl uO rfl (λa c=>vV a _ _ _ _ (h.rd a (c.has e4)) h.ok.nums _) (λO P=>?_);refine ah ?_;refine ep (k:=0) b bc rfl E6 rfl (λa o x=>IJ o b.am _ _) (λT b ai q=>?_);refine ah ?_;intro f d;exact aN T (b.mono aa) d;have M:=z
 refine al ?_;refine aj (λA=>?_) (λA=>?_);have Q:=A
 refine al ?_;refine aj (λS=>?_) (λS=>?_);refine ah ?_;refine ao rfl q6 rfl (λa c=>ri a T.am.ap (c.ed (l:=aO T.am) cr (Has.tail Has.head))) ?_;refine ar ?_;refine ao rfl Ae rfl (λa c=>AV a T.am.ap (c.ed (l:=aO T.am) cr (Has.tail Has.head))) ?_;refine ao rfl Ot rfl (λa c=>cU.p5 a (i a (c.has e4)).it _ _) ?_;refine hg rfl nt rfl (λa o=>n_ a g par X T o b _ aa (by apply D)) (λT b=>?_);refine ah ?_;intro f d;exact aN T (b.mono aa) d;refine ah ?_;intro f d;exact aN T (b.mono aa) d;have Q:=A
 refine ah ?_;intro f d;exact aN T (b.mono aa) d
section
variable {P:Program} {n:Nat} {ops:Array Oper} {Q:cq} {rest:List Oper} {l:Fr} {d:Nat} {ty:TypeId} {pos:String} {a7:Array Edge}
variable {b:World} {S:List Nat} {args:List Operand} {db:Array TypeId} {f:FuncId} {vs:List Value} {g par m:Nat} {R:Int} {T:bL} {X e7:Chunk}
theorem JP (ak:Nat.blt d n=true) (c:ad P f) (i:cI l args=some vs)
 (j: ∀w,a8 w (bz g par X T)→Calls P f vs.toArray w (CH g par X R m T w))
 (h: ∀(z:Bool) (bu:bL),cp g R m bu→az P n ops Q rest ((d,.bool z)::l) (af b S (e7::bz g par X bu))):
 az P n ops Q (⟨some d,.call ⟨.value (.func f),args.toArray,db⟩,ty,pos,a7,none⟩::rest) l (af b S (e7::bz g par X T)):=by
 refine gT rfl ak c i λw a=>?_
 have:=j w (a.bo ae)
 simp only[iA,i8];refine this.mono ?_;rintro e w' ⟨⟨z,bu⟩,hi,rfl,k⟩;exact⟨.bool z,rfl,(h z bu hi).at ((a.pZ ae k).perm (ou (l₁:=bz g par X bu) (l₂:=[e7])))⟩
end
theorem JQ (b:Nat) (p:Bool) (n:Int) (h: -1≤n∧n≤65535): (du.qt b p n).length≤1000:=by
 have:=du.IO p n aa
 simp only[du.qt,b6,eO,lL];omega
set_option maxHeartbeats 1000000 in
theorem Wb [Inhabited bO] (w:World) (g par:Nat) (X:Chunk) (T:bL) (K:a8 w (bz g par X T)) {e:dT} (f:mn X e) {R:Int} {m:Nat} (a:cp g R m T) (Zg:m≤700000000000):
 Calls prog 122 [ptr g,.agg e.enc.toArray].toArray w (hy g par X R (m+4000000) (.tuple #[]) T w):=by
 have v:=f.ps
 obtain⟨⟨L,M⟩,N,O⟩:=f.ok.u8;have P:=f.ok.inter
 obtain⟨kind,r,byte,pre,nums,inter,text,cut⟩:=e;dsimp only at L M N O P
 obtain⟨G,rfl⟩ : ∃c:UInt8,byte=(c.toNat:Int):=⟨UInt8.ofNat byte.toNat,by rw[qU];omega⟩;obtain⟨H,rfl⟩ : ∃c:UInt8,pre=(c.toNat:Int):=⟨UInt8.ofNat pre.toNat,by rw[qU];omega⟩;refine bI func122 ntmps122 K ?_;refine ah ?_;intro y Zh Zi;refine al ?_;refine a6 (l0:=[]) aA.nil rfl uL rfl (λb i=>yQ b _ _ _ _ (f.rd b (i.has e4)) f.ok.nums _ _ aZ) (λz Zj=>?_);refine aK ?_;refine dy (E:=cz) _ ft rfl rfl rfl rfl rfl (λZk Zl Zm=>?_);refine ji underlying51 underlying5 underlying9 rfl rfl (λQ A=>hv (A.has aT)) ?_;refine aq ?_;refine eJ rfl rfl rfl b4 ?_;refine aq ?_;refine dy (E:=cz) _ ft rfl rfl rfl rfl rfl (λZn Zo Zp=>?_);refine ji underlying51 underlying5 underlying9 rfl rfl (λQ A=>hv (A.has aT)) ?_;refine eJ rfl rfl rfl b4 ?_;refine aq ?_;refine cH (H':=af w (aB (bz g par X T)) (aD y (dT.enc ⟨kind,r,G.toNat,H.toNat,nums,inter,text,cut⟩) 171::bz g par X T)) ?_ (Sub.refl _) (λ_ d=>d.ax ae);refine hL (λ_:bL=>[(0,ptr g),(3,ptr y),(4,.int .i64 z)]) (λbu=>af w (aB (bz g par X T)) (aD y (dT.enc ⟨kind,r,G.toNat,H.toNat,nums,inter,text,cut⟩) 171::bz g par X bu)) (λbu=>cp g R (m+1000) bu) ?_ ?_;refine aK ?_;refine aj (λj=>?_) (λj=>?_);have I:=j
 simp only[bZ] at j
 refine aq ?_;refine eE rfl ((bX I)) ?_;refine ah ?_;refine hg rfl w4 rfl (λb o=>yR b g par X T o f a aa _) (λT a=>?_);refine aq ?_;exact dr T (a.mono aa) bR (λ_ h=>h);have I:=j
 simp only[bZ] at j
 refine ay ?_;refine aj (λaH=>?_) (λaH=>?_);have S:=aH
 simp only[bZ] at aH
 refine ah ?_;refine hg rfl w4 rfl (λb o=>yR b g par X T o f a aa _) (λT a=>?_);refine aq ?_;exact dr T (a.mono aa) bR (λ_ h=>h);have S:=aH
 simp only[bZ] at aH
 refine al ?_;refine aj (λk=>?_) (λk=>?_);have U:=k
 simp only[bZ] at k
 refine al ?_;refine aj (λV=>?_) (λV=>?_);refine aq ?_;refine hg rfl ET rfl (λb o=>JM b g par X T o v a aa _) (λT a=>?_);refine aq ?_;exact dr T (a.mono aa) bR (λ_ h=>h);refine aq ?_;exact dr T (a.mono aa) bR (λ_ h=>h);have U:=k
 simp only[bZ] at k
 refine aC ?_;refine aj (λl=>?_) (λl=>?_);have J:=l
 simp only[bZ] at l
 refine aq ?_;refine eE rfl ((bX J)) ?_;refine ay ?_;refine hg rfl w5 rfl (λb o=>yO b g par X T o a aa _ _) (λT a=>?_);refine aq ?_;exact dr T (a.mono aa) bR (λ_ h=>h);have J:=l
 simp only[bZ] at l
 refine ay ?_;refine aj (λn=>?_) (λn=>?_);have W:=n
 simp only[bZ] at n
 refine ay ?_;refine hg rfl w5 rfl (λb o=>yO b g par X T o a aa _ _) (λT a=>?_);refine aq ?_;exact dr T (a.mono aa) bR (λ_ h=>h);have W:=n
 simp only[bZ] at n
 refine al ?_;refine aj (λq=>?_) (λq=>?_);have Y:=q
 simp only[bZ] at q
 refine al ?_;refine aj (λZ=>?_) (λZ=>?_);refine aq ?_;refine ao rfl NS rfl (λb i=>cU.Ux b (v b (i.has e4)).it) ?_;refine hg rfl nt rfl (λb o=>n_ b g par X T o a _ aa aZ) (λT a=>?_);refine aq ?_;exact dr T (a.mono aa) bR (λ_ h=>h);refine aq ?_;exact dr T (a.mono aa) bR (λ_ h=>h);have Y:=q
 simp only[bZ] at q
 refine al ?_;refine aj (λs=>?_) (λs=>?_);have Za:=s
 simp only[bZ] at s
 have B: ∀p,(du.qt T.b8 p z).length≤1000:=λp=>JQ _ _ _ aa
 refine aC ?_;refine ao rfl EU rfl (λb i=>du.IP b (v b (i.has e4)).it T.b8 a.md _ _ aa) ?_;refine hg rfl nt rfl (λb o=>n_ b g par X T o a _ aa (by apply B)) (λT a=>?_);refine aq ?_;exact dr T (a.mono aa) bR (λ_ h=>h);have Za:=s
 simp only[bZ] at s
 refine al ?_;refine aj (λt=>?_) (λt=>?_);have Zb:=t
 simp only[bZ] at t
 have B: ∀p,(du.qt T.b8 p z).length≤1000:=λp=>JQ _ _ _ aa
 refine aC ?_;refine ao rfl EU rfl (λb i=>du.IP b (v b (i.has e4)).it T.b8 a.md _ _ aa) ?_;refine hg rfl nt rfl (λb o=>n_ b g par X T o a _ aa (by apply B)) (λT a=>?_);refine aq ?_;exact dr T (a.mono aa) bR (λ_ h=>h);have Zb:=t
 simp only[bZ] at t
 refine al ?_;refine aj (λu=>?_) (λu=>?_);have Zc:=u
 simp only[bZ] at u
 refine aq ?_;refine hg rfl NT rfl (λb o=>VW b g par X T o a) (λT a=>?_);refine aq ?_;exact dr T (a.mono aa) bR (λ_ h=>h);have Zc:=u
 simp only[bZ] at u
 refine aq ?_;exact dr T (a.mono aa) bR (λ_ h=>h);intro T a;refine aC ?_;refine aW 74 rfl (λC=>?_) (λC=>?_);have Zd:=aX C
 refine aK ?_;refine aW 79 rfl (λD=>?_) (λD=>?_);have Ze:=aX D
 refine ay ?_;refine JP rfl NU rfl (λb o=>V5 b g par X T o f a aa) (λZq T a=>?_);refine aS ?_;refine aW 85 rfl (λZf=>?_) (λZf=>?_);refine ay ?_;refine JP rfl NV rfl (λb o=>V9 b g par X T o f a aa) (λZr T a=>?_);refine ay ?_;refine b1 rfl (λF=>?_) (λF=>?_);simp only[bZ] at F
 refine aS ?_;refine hg rfl NW rfl (λb o=>Wa b g par X T o f a aa _) (λT a=>?_);refine aq ?_;intro x d;exact aN T (a.mono aa) d;simp only[bZ] at F
 refine aq ?_;intro x d;exact aN T (a.mono aa) d;refine aQ ?_;intro x d;exact aN T (a.mono aa) d;have Ze:=bd D
 refine dB ?_;intro x d;exact aN T (a.mono aa) d;have Zd:=bd C
 refine hr ?_;intro x d;exact aN T (a.mono aa) d
end
end Go.Proofs.YtlgnfdodnhokjaaGreatDoor.Mq
