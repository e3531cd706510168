/- part 28 of the proof -/
import Derived.Test.YtoghoobfpcadbaaGreatDoorQ24
import Derived.Test.YtoghoobfpcadbaaGreatDoorQ25
import Derived.Test.YtoghoobfpcadbaaGreatDoorQ27
import Derived.Laws.RangeAny
import Derived.Shelf.GgClosure.StringsIndexFuncTop
namespace Go.Proofs.YtoghoobfpcadbaaGreatDoor.Mq.Os
open Go Go.RowKit Go.Proofs Tryz
def kP (r:Nat):Bool:=decide (48≤r) && decide (r≤57)
def Bj:Shelf.Ren:=⟨λ| 15=>380 | 20=>428 | n=>n,λ| 0=>0 | 3=>3 | 4=>4 | 9=>9 | 21=>21 | 23=>396 | n=>n,λn=>n⟩
theorem Bk:LaysGw.n15 prog Bj where
 mixed:=by kernel_rfl
 f15:=func380.trans (aV some ab)
 f20:=func428.trans (aV some ab)
 t0:=underlying0
 a0:=isAgg0
 z0:=sizeOf0
 v0:=zeroValue0
 i0:=by kernel_rfl
 t3:=underlying3
 a3:=isAgg3
 z3:=sizeOf3
 v3:=zeroValue3
 i3:=by kernel_rfl
 t4:=underlying4
 a4:=isAgg4
 z4:=sizeOf4
 v4:=zeroValue4
 i4:=by kernel_rfl
 t9:=underlying9
 a9:=isAgg9
 z9:=sizeOf9
 v9:=zeroValue9
 i9:=by kernel_rfl
 t21:=underlying21
 a21:=isAgg21
 z21:=sizeOf21
 v21:=zeroValue21
 i21:=by kernel_rfl
 t23:=underlying396
 a23:=isAgg396
 z23:=sizeOf396
 v23:=zeroValue396
 i23:=by kernel_rfl
theorem IT (s:List UInt8): ∀(f pos:Nat),s.length≤f+pos→(Lib.idxFuncFrom (λr=> !kP r) true (bs s) f pos<0↔ ∀(j:Nat) (c:UInt8),pos≤j→s[j]? = some c→kP c.toNat=true)
 | 0,pos,h=>by
  constructor
  intro _ j c e a;have:=(cY.1 a).1
  omega
  intro _;simp[Lib.idxFuncFrom]
 | f+1,pos,h=>by
  unfold Lib.idxFuncFrom;rw[hH];by_cases ai:pos<s.length
  rw[ay ai];have g:pos<(bs s).size:=by rw[hH];exact ai
  have i: (bs s)[pos]'g=s[pos]:=by simp[bs,ByteArray.getElem_eq_getElem_data]
  by_cases l: (s[pos]).toNat<128
  have ak:=decode_ascii (bs s) pos g (by rw[i];exact l)
  rw[i] at ak
  rw[ak];dsimp only;by_cases d:kP (s[pos]).toNat=true
  rw[ag (by simp[d]),IT s f (pos+1) aa];constructor
  intro b j c e a;by_cases m:j=pos
  subst m;rw[bG ai] at a
  simp only[dI] at a
  rw[←a];exact d
  exact b j c aa a;intro b j c e a;exact b j c aa a;rw[ay (by simp[d])];constructor
  intro n;omega
  intro b;exact absurd (b pos s[pos] (ch _) (bG ai)) d;have ak:=decode_high (bs s) pos g (by rw[i];omega)
  have k: ∀r,128≤r→kP r=false:=λr o=>by simp[kP];omega
  rw[ay (by simp[k _ ak.1])];constructor
  intro n;omega
  intro b;have:=b pos s[pos] (ch _) (bG ai)
  rw[k _ aa] at this
  cases this
  rw[ag ai];constructor
  intro _ j c e a;have:=(cY.1 a).1
  omega
  intro _;omega
theorem UR:ad prog 447:=ad.of func447 ab ab
theorem US (w:World) (r:Nat):
 Calls prog 447 [.int .i32 (r:Int)].toArray w (λe w'=>e= .returned (.bool (!kP r))∧w'=w):=by
 refine calls (n:=9) func447 rfl ntmps447 rfl ?_;refine aR ?_;refine aX 5 rfl (λa=>?_) (λa=>?_);have c:=a1 a
 refine aL ?_;intro d b;refine⟨?_,b⟩;rw[show kP r=false by unfold kP;rw[bO aa];rfl];rfl
 have c:=bc a
 refine aR ?_;intro d b;refine⟨?_,b⟩;congr 2
 unfold kP;rw[b5 (show 48≤r by omega),Bool.true_and];by_cases h:r≤57
 rw[b5 h,bO aa];rfl
 rw[bO h,b5 aa];rfl
theorem UT (w:World) (s:List UInt8):
 Calls prog 380 [.string (bs s),.func (.func 447) #[] #[]].toArray w (λe w'=> ∃n:Int,e= .returned (.int .i64 n)∧decide (0≤n)= !s.all pb∧Ext [] w w'):=by
 refine Calls.mono (Any.strings_IndexFunc Bk 447 #[] (λargs w=>zf UR args w) (λr=> !kP r) (bs s) w (λW x _=>?_)) (λe f h=>⟨_,h.1,?_,Ext.r8 h.2⟩);refine Calls.mono (US W x) (λe f h=>⟨h.1,0,?_⟩);rw[h.2];rfl
 have:=IT s s.length 0 aa
 rw[Lib.idxFunc,hH];have b: (s.all pb=true)↔Lib.idxFuncFrom (λr=> !kP r) true (bs s) s.length 0<0:=by
  rw[this,iY];constructor
  intro h j c _ a;have:=a1 (h c (dc a))
  unfold kP;rw[b5 this.1,b5 this.2];rfl
  intro h c a;obtain⟨j,g⟩:=qD a;have:=h j c (bP _) g
  unfold kP at this
  rw[d_,e2,e2] at this
  exact b5 this
 cases d:s.all pb with
 | true=>
  have:=b.1 d
  rw[bO aa];rfl
 | false=>
  have: ¬Lib.idxFuncFrom (λr=> !kP r) true (bs s) s.length 0<0:=λh=>by
   have:=b.2 h
   rw[d] at this;cases this
  rw[b5 aa];rfl
theorem UU:ad prog 465:=ad.of func465 ab ab
theorem UV (w:World) (s p:List UInt8) (b:s.length≤9223372036854775807) (ai:p.length≤9223372036854775807):Calls prog 465 [.string (bs s),.string (bs p)].toArray w (λe w'=>e= .returned (.string (bs (if s.take p.length=p then s.drop p.length else s)))∧Ext [] w w'):=by
 refine aW func465 ntmps465 ?_;refine aR ?_;refine ao rfl Iy rfl (λw' _=>Iz w' s p b ai) ?_;refine aq ?_;refine aj (λh=>?_) (λh=>?_);have d:p.length≤s.length:=by have:=aV List.length h;simp at this;omega
 refine ax ?_;refine pB p.length underlying9 rfl rfl rfl bb aa ?_;refine al ?_;intro c a;exact⟨by rw[ay h],a.ext⟩;refine aR ?_;intro c a;exact⟨by rw[ag h],a.ext⟩
theorem UW (w:World) (s p:List UInt8) (a:s.length≤9223372036854775807) (ai:p.length≤9223372036854775807):Calls prog 446 [.string (bs s),.string (bs p)].toArray w (λe w'=>e= .returned (.string (bs (if s.take p.length=p then s.drop p.length else s)))∧Ext [] w w'):=by
 refine aW func446 ntmps446 ?_;refine aJ ?_;refine ao rfl UU rfl (λw' _=>UV w' s p a ai) ?_;refine ax ?_;intro c b;exact⟨rfl,b.ext⟩
theorem UX (s:List UInt8): (if s.take [(45 :UInt8)].length=[45] then s.drop [(45 :UInt8)].length else s)=gG s:=by
 unfold gG;cases s with
 | nil=>rfl
 | cons c l=>
  show (if [c]=[45] then l else c::l)=if some c=some 45 then l else c::l
  by_cases h:c=45
  rw[ay (by rw[h]),ay (by rw[h])];rw[ag (λe=>h (List.cons.inj e).1),ag (λe=>h (om e))]
theorem UY (s:List UInt8): (gG s).length≤s.length:=by
 unfold gG;split
 rw[fK];omega
 exact ch _
def UZ (p:Int × Bool):Value:= .tuple #[.int .i64 p.1,.bool p.2]
theorem Ci {s:List UInt8} (h: ¬(1≤(gG s).length∧(gG s).length≤9∧(gG s).all pb=true)):codeF s=(0,false):=by
 unfold codeF;rw[ag];intro a;unfold codeOk at a
 rw[d_,d_,e2,e2] at a
 exact h ⟨a.1.1,a.1.2,a.2⟩
theorem U0 (w:World) (s:List UInt8) (l:s.length≤1000000):
 Calls prog 415 [.string (bs s)].toArray w (λe w'=>e= .returned (UZ (codeF s))∧Ext [] w w'):=by
 have x:=UY s
 refine aW func415 ntmps415 ?_;refine aJ ?_;refine ao (v:= .string (bs (gG s))) rfl O6 rfl (λw' _=>by have h:=UW w' s [45] aa aZ;rw[UX] at h;exact h) ?_;refine aJ ?_;refine aX 11 rfl (λc=>?_) (λc=>?_);have f:=a1 c
 refine hs ?_;intro g a;exact⟨by rw[Ci (by rw[f];simp)];rfl,a.ext⟩;have f:=bc c
 refine aL ?_;refine aX 16 rfl (λd=>?_) (λd=>?_);have m:=a1 d
 refine dx ?_;intro g a;exact⟨by rw[Ci aa];rfl,a.ext⟩;have m:=bc d
 refine ah ?_;refine mC (R:=λ_ v _=> ∃n:Int,v= .int .i64 n∧decide (0≤n)= !(gG s).all pb) rfl E9 rfl (λw' _=>(UT w' (gG s)).mono (λe y h=>by obtain⟨n,c,d,i⟩:=h;exact⟨_,c,i,n,rfl,d⟩)) (λz o v p q A B r=>?_);obtain⟨n,rfl,b⟩:=r;have j:Ext [] w o:=p.ext.dZ q
 refine ax ?_;refine aj (λi=>?_) (λi=>?_);refine aJ ?_;intro g a;rw[b5 (show 0≤n by omega)] at b
 exact⟨by rw[Ci (λh=>by rw[h.2.2] at b;cases b)];rfl,j.dZ a.ext⟩;rw[bO (show ¬0≤n by omega)] at b
 have k:codeOk s=true:=by
  unfold codeOk;have t:1≤(gG s).length:=ug.2 f
  rw[b5 t,b5 (show (gG s).length≤9 by omega)];cases u: (gG s).all pb with
  | true=>rfl
  | false=>rw[u] at b;cases b
 refine ax ?_;refine ao (v:= .tuple #[.int .i64 (codeF s).1,.nilIface]) rfl Uk rfl (λw' _=>Ul w' s _ l (UQ k)) ?_;refine dx ?_;intro g a;exact⟨by rw[show codeF s=((codeF s).1,true) by unfold codeF;rw[ay k]];rfl,j.dZ a.ext⟩
def IU (a b:UInt8):Value→Prop:=λv=> ∃n:Nat,v= .tuple #[.int .u8 (n:Int),.bool (decide (0≤cP a) && decide (0≤cP b))]∧(0≤cP a→0≤cP b→(n:Int)=(nW a b).toNat)
theorem U1:cP 43= -1:=by decide
theorem IV:cP 95= -1:=by decide
theorem U2 (w:World) (n:pc w) (a b:UInt8):Calls prog 417 [.string (bs [a,b])].toArray w (nn (λv _=>IU a b v) w):=by
 have E:=UInt8.toNat_lt a
 have F:=UInt8.toNat_lt b
 refine aW func417 ntmps417 ?_;refine aJ ?_;refine mC (R:=λ_ v _=>IP a b v) rfl O7 rfl (λw' o=>UN w' (n.ext o.ext) a b) (λG s v u A H I B=>?_);have l:Ext [] w s:=u.ext.dZ A
 rcases B with ⟨y,z,J,K,g,i,rfl⟩ | ⟨m,x,t,p,rfl⟩
 refine aL ?_;have j: (a.toNat:Int)≠43:=λe=>by
  have:a=43:=UInt8.toNat_inj.1 (by have: (43 :UInt8).toNat=43:=rfl;omega)
  rw[this,U1] at g;omega
 have k: (a.toNat:Int)≠95:=λe=>by
  have:a=95:=UInt8.toNat_inj.1 (by have: (95 :UInt8).toNat=95:=rfl;omega)
  rw[this,IV] at g;omega
 have C: (b.toNat:Int)≠95:=λe=>by
  have:b=95:=UInt8.toNat_inj.1 (by have: (95 :UInt8).toNat=95:=rfl;omega)
  rw[this,IV] at i;omega
 refine eq [0,1,2,3,4,5,6,7,8,9,10,11,12,13,14,15,16,17,18,19,20] 0 [[]] (λ_=>True) mixed ab (λ_ f=>f.drew) (λ_ h=>cz) ?_;refine ar ?_;refine aI rfl (λc d=>(dm (r:=((16*y+z:Nat):Int)) rfl rfl underlying32 underlying5 (by rw[IntKind.wrap_u8];omega) aC)) ?_;refine ar ?_;refine aI rfl (λc d=>(Um ab rfl rfl aC)) ?_;refine aq ?_;refine aI rfl (λc d=>bY rfl rfl (rfl) (ii (q:=0) underlying9 rfl rfl rfl bb (rfl: [a,b][0]? = some a) aC)) ?_;refine ah ?_;refine aI rfl (λc d=>bY rfl rfl ((b5 j)) (gl rfl rfl aC)) ?_;refine aI rfl (λc d=>bY rfl rfl ((b5 j)) (ii (q:=0) underlying9 rfl rfl rfl bb (rfl: [a,b][0]? = some a) aC)) ?_;refine aI rfl (λc d=>bY rfl rfl ((b5 j)) (wr rfl rfl rfl aC)) ?_;refine aq ?_;refine aI rfl (λc d=>bY rfl rfl ((b5 k)) (gl rfl rfl aC)) ?_;refine aI rfl (λc d=>bY rfl rfl ((b5 k)) (ii (q:=1) underlying9 rfl rfl rfl bb (rfl: [a,b][1]? = some b) aC)) ?_;refine aI rfl (λc d=>bY rfl rfl ((b5 k)) (wr rfl rfl rfl aC)) ?_;refine aL ?_;intro D f;refine⟨_,rfl,l.dZ f.ext,16*y+z,?_,λ_ _=>?_⟩;rw[b5 C,g,i,b5 (show (0 :Int)≤(y:Int) by omega),b5 (show (0 :Int)≤(z:Int) by omega)];rfl
 unfold nW;rw[g,i,qM];omega
 refine aL ?_;refine eq [0,1,2,3,4,5,6,7,8,9,10,11,12,13,14,15,16,17,18,19,20] 0 [[]] (λ_=>True) mixed ab (λ_ f=>f.drew) (λ_ h=>cz) ?_;refine ar ?_;refine aI rfl (λc d=>(dm (r:=((x%256 :Nat):Int)) rfl rfl underlying32 underlying5 (by rw[IntKind.wrap_u8];omega) aC)) ?_;refine ar ?_;refine aI rfl (λc d=>(Un ab rfl rfl aC)) ?_;refine kw ?_;intro D f;refine⟨_,rfl,l.dZ f.ext,x%256,?_,λL M=>?_⟩;have: (decide (0≤cP a) && decide (0≤cP b))=false:=by
  rcases m with h | h
  rw[h];rfl
  rw[h,Bool.and_comm];rfl
 rw[this];rcases m with h | h <;> omega
theorem yx {s:List UInt8} {a b:UInt8}:tC s [a,b]=true↔s.take 2=[a,b]:=by
 unfold tC;rw[d_,e2,e2];constructor
 exact λh=>h.2
 intro h;refine⟨?_,h⟩;have:=aV List.length h
 rw[dv] at this
 simp at this
 show 2≤s.length
 omega
theorem U3 {s:List UInt8} (h:s.take 2=[92,92]):iU s=(2,92):=by unfold iU;rw[ay h]
theorem U4 {s:List UInt8} (h:s.take 2=[92,120]) (a:4≤s.length) (b:0≤cP (s.getD 2 0)) (c:0≤cP (s.getD 3 0)):iU s=(4,nW (s.getD 2 0) (s.getD 3 0)):=by
 unfold iU;rw[ag (by rw[h];decide),ay ⟨h,a,b,c⟩]
theorem Cj {s:List UInt8} (a: ¬s.take 2=[92,92]) (b: ¬(s.take 2=[92,120]∧4≤s.length∧0≤cP (s.getD 2 0)∧0≤cP (s.getD 3 0))):iU s=(1,s.headD 0):=by
 unfold iU;rw[ag a,ag b]
theorem U5 {s:List UInt8} {i:Nat} (h:i<s.length):hY (s.drop i)=(iU (s.drop i)).2::hY (s.drop (i+(iU (s.drop i)).1)):=by
 rw[IS (by intro e;have:=aV List.length e;rw[fK] at this;simp at this;omega),mr]
theorem IW (w:World) (U:pc w) (s:List UInt8) (Zq:s.length≤1000000):
 Calls prog 354 [.string (bs s)].toArray w (λe w'=>e= .returned (.string (bs (hY s)))∧Ext [] w w'):=by
 refine aW func354 ntmps354 ?_;refine al ?_;refine jS 5 1 ?_;refine bp ?_;refine b1 (ι:=Nat × Value × List UInt8) (λt=>[(0,.string (bs s)),(3,t.2.1),(4,.int .i64 (t.1 :Int))]) (λt=>af w [] [own 5 1 t.2.1 t.2.2.length (cD.all t.2.2)]) (λt=>t.1≤s.length∧t.2.2.length≤t.1∧hY s=t.2.2++hY (s.drop t.1)) (λt=>s.length - t.1) ?_ ?_;exact λw' d=>⟨(0,_,[]),⟨bP _,ch _,rfl⟩,(ef rfl rfl rfl),d⟩
 rintro⟨i,v,g⟩ ⟨hi,V,r⟩;dsimp only at hi V r ⊢
 refine aJ ?_;refine aj (λW=>?_) (λW=>?_);have o:=U5 (s:=s) (i:=i) aa
 have L: (s.drop i).length=s.length - i:=fK
 obtain⟨c,z⟩ : ∃c,s[i]? = some c:=⟨s[i]'aa,bG _⟩;have D: (s.drop i).headD 0=c:=by
  rw[List.headD_eq_head?_getD,List.head?_drop,z];rfl
 have Zr: ∀k,(s.drop i).getD k 0=s.getD (i+k) 0:=λk=>by rw[fB,mu,fB]
 have G: ∀(X:Value) (Zs:World) (M:iU (s.drop i)=(1,c)),hY s=(g++[c])++hY (s.drop (i+1)):=λ_ _ M=>by rw[r,o,M];simp
 refine aL ?_;refine pB i underlying9 rfl rfl rfl bb aa ?_;refine aD ?_;refine je rfl Fe rfl (λw' _=>IJ w' (s.drop i) [92,92]) ?_;refine aq ?_;refine b6 rfl (λA=>?_) (λA=>?_);have j:=yx.1 A
 have f:=U3 j
 have N:=UO (s:=s.drop i) (by intro e;rw[e] at j;cases j)
 rw[f] at o N
 dsimp only at o N
 have Y:s[i+1]? = some 92:=by
  have:=aV (λl=>l[1]?) j
  rw[iB,ay aZ,mu] at this
  exact this
 refine aR ?_;refine ii (q:=i+1) underlying9 rfl rfl rfl aa Y ?_;refine ar ?_;intro H I J;refine gv fk rfl rfl rfl bi (λ_=>by exact cA) rfl (im rfl) (by simp only[maxLen];omega) aa (λp K=>?_);refine aJ ?_;refine bg (i+2,p,g++[92]) ⟨by dsimp only;omega,by dsimp only;simp;omega,by rw[r,o];simp⟩ bm (ef rfl rfl rfl) (λw' d=>?_);dsimp only;rw[bx.hk cD,b8];exact d;have j: ¬(s.drop i).take 2=[92,92]:=λe=>by rw[yx.2 e] at A;cases A
 refine ah ?_;refine je rfl Fe rfl (λw' _=>IJ w' (s.drop i) [92,120]) ?_;refine ar ?_;refine aX 23 rfl (λB=>?_) (λB=>?_);have Z:=yx.1 B
 refine aJ ?_;refine aj (λC=>?_) (λC=>?_);obtain⟨x,y,a,b,t,ak⟩ : ∃x y a b t,s.drop i=x::y::a::b::t:=by
  match Za:s.drop i with
  | x::y::a::b::t=>exact⟨x,y,a,b,t,rfl⟩
  | [] | [_] | [_,_] | [_,_,_]=>rw[Za] at L C;simp at L C
 have Zb: ((s.drop i).take 4).drop 2=[a,b]:=by rw[ak];rfl
 have Zc: (s.drop i).getD 2 0=a:=by rw[ak];rfl
 have Zd: (s.drop i).getD 3 0=b:=by rw[ak];rfl
 have O:=U4 Z aa
 have P:=Cj (s:=s.drop i) j
 rw[Zc,Zd] at O P
 refine ah ?_;refine LD 2 4 underlying9 rfl rfl rfl rfl bb bb aa aa ?_;rw[Zb];refine mC (R:=λ_ v _=>IU a b v) rfl OV rfl (λw' d=>U2 w' (U.ext d.ext) a b) (λZt Zu X Q Ze Zv Zw Zf=>?_);obtain⟨n,rfl,Zg⟩:=Zf;have S:=Q.ext.dZ Ze
 have T:=Q.ei
 refine bB ?_;refine b6 rfl (λm=>?_) (λm=>?_);rw[d_,e2,e2] at m
 have Zh:=Zg m.1 m.2
 have f:=O m.1 m.2
 rw[f] at o
 dsimp only at o
 refine ax ?_;intro Zx Zy Zz;refine gv fk rfl rfl rfl bi (λ_=>by exact cA) rfl (im rfl) (by simp only[maxLen];omega) aa (λZi ZA=>?_);refine eM ?_;refine bg (i+4,Zi,g++[nW a b]) ⟨by dsimp only;omega,by dsimp only;simp;omega,by rw[r,o];simp⟩ bm (ef rfl rfl rfl) (λw' d=>?_);dsimp only;rw[bx.hk cD,b8];rw[Zh] at d
 exact d.y_ S T;have f:=P (λh=>by rw[b5 h.2.2.1,b5 h.2.2.2] at m;cases m)
 rw[D] at f
 have u:=G v w f
 refine al ?_;refine ii (q:=i) underlying9 rfl rfl rfl aa z ?_;refine ar ?_;intro H I J;refine gv fk rfl rfl rfl bi (λ_=>by exact cA) rfl (im rfl) (by simp only[maxLen];omega) aa (λp K=>?_);refine aJ ?_;refine bg (i+1,p,g++[c]) ⟨by dsimp only;omega,by dsimp only;simp;omega,u⟩ bm (ef rfl rfl rfl) (λw' d=>?_);dsimp only;rw[bx.hk cD,b8];exact d.y_ S T;have f:=Cj (s:=s.drop i) j (λh=>C (by have:=h.2.1;omega))
 rw[D] at f
 have u:=G v w f
 refine al ?_;refine ii (q:=i) underlying9 rfl rfl rfl aa z ?_;refine ar ?_;intro H I J;refine gv fk rfl rfl rfl bi (λ_=>by exact cA) rfl (im rfl) (by simp only[maxLen];omega) aa (λp K=>?_);refine aJ ?_;refine bg (i+1,p,g++[c]) ⟨by dsimp only;omega,by dsimp only;simp;omega,u⟩ bm (ef rfl rfl rfl) (λw' d=>?_);dsimp only;rw[bx.hk cD,b8];exact d;have f:=Cj (s:=s.drop i) j (λh=>by rw[yx.2 h.1] at B;cases B)
 rw[D] at f
 have u:=G v w f
 refine bI ?_;refine ii (q:=i) underlying9 rfl rfl rfl aa z ?_;refine ar ?_;intro H I J;refine gv fk rfl rfl rfl bi (λ_=>by exact cA) rfl (im rfl) (by simp only[maxLen];omega) aa (λp K=>?_);refine aJ ?_;refine bg (i+1,p,g++[c]) ⟨by dsimp only;omega,by dsimp only;simp;omega,u⟩ bm (ef rfl rfl rfl) (λw' d=>?_);dsimp only;rw[bx.hk cD,b8];exact d;have Zj:i=s.length:=by omega
 rw[Zj,List.drop_length,IR,fR] at r
 refine hE (v:=v) Has.head (λZk Zl Zm ZB ZC ZD ZE=>?_);subst Zm;refine aL ?_;refine jd (s:=g) (F:=λk=>(Value.slice Zk g.length Zl).ownBlock=some k) underlying59 underlying5 underlying9 rfl rfl (λw' d=>?_) ?_;obtain⟨ZF,ZG,Zn,Zo⟩:=Rd.ga (E:=cD) (d.has Has.head) rfl;cases Zn
 exact Zo;refine ax ?_;intro ZH Zp;exact⟨by rw[r],Zp.ext⟩
theorem af.IX {b:World} {S:List Nat} {cs cs':List Chunk} {w:World} (h:af b S cs w) (e:cs=cs'):af b S cs' w:=e▸h
theorem U6 (w:World) (s:List UInt8) (b:s.length≤1000000):
 Calls prog 358 [.string (bs s)].toArray w (λe w'=>e= .returned (.string (bs (s.take 256)))∧Ext [] w w'):=by
 refine aW func358 ntmps358 ?_;refine bp ?_;refine pC (min s.length 256) underlying9 rfl rfl rfl aa aa ?_;refine ax ?_;intro c a;refine⟨?_,a.ext⟩;have e:s.take (min s.length 256)=s.take 256:=by
  rcases Nat.le_total s.length 256 with h | h
  rw[iE h,ez (ch _),ez h];rw[Nat.min_eq_right h]
 rw[e]
theorem tF (w:World) (k:Int) (s:List UInt8) (a:s.length≤1000000):
 Calls prog 274 [.int .i64 k,.string (bs s)].toArray w (λe w'=>e= .returned (.agg (nY k s).cells.toArray)∧Ext [] w w'):=by
 refine aW func274 ntmps274 ?_;refine ah ?_;intro c d f;refine al ?_;refine ao rfl Oq rfl (λw' _=>U6 w' s a) ?_;refine al ?_;intro g b;exact⟨rfl,b.ext⟩
def Ck (L:List (List UInt8)) (i:Nat):Value:= .tuple #[.string (bs (L.getD i [])),.bool (decide (i<L.length))]
theorem yy (w:World) (F:Nat→Prop) (A:Option Addr) (n c:Nat) (L:List (List UInt8)) (b:Rd jL w F A n c L) (i:Nat):
 Calls prog 271 [.slice A n c,.int .i64 (i:Int)].toArray w (λe w'=>e= .returned (Ck L i)∧Ext [] w w'):=by
 have k:=b.len
 refine aW func271 ntmps271 ?_;refine cI ?_;refine aj (λf=>?_) (λf=>?_);refine aJ ?_;intro g a;exact⟨by rw[Ck,bO aa,fB,km aa];rfl,a.ext⟩;obtain⟨x,d⟩ : ∃x,L[i]? = some x:=⟨L[i]'aa,bG _⟩;obtain⟨b2,l,_,h⟩:=b.at_ d;refine al ?_;refine bw (q:=i) L5 rfl rfl rfl bA aa aa ?_;refine a7 k6 rfl rfl (λw' j=>j.ct (h 0 _ rfl) av) ?_;refine al ?_;intro g a;exact⟨by rw[Ck,b5 aa,fB,d];rfl,a.ext⟩
def IY (s:List UInt8) (a:World) (v:Value) (b:World):Prop:= ∃A n c,v= .agg #[.slice A n c,.string (bs (jN s)),.bool (decide (59∈s))]∧Rd jL b (λk=>a.heap.size≤k) A n c (fH 59 s)
theorem U7 (s:List UInt8): (jN s).length≤s.length:=by
 unfold jN;split
 rw[fK];have:=(List.dropWhile_sublist (λx:UInt8=>decide (x≠59)) (l:=s)).length_le
 omega
 exact bP _
theorem U8 (s:List UInt8): ∃x,iS s 59= .tuple #[.string x,.string (bs (jN s)),.bool (decide (59∈s))]:=by
 unfold iS jN;by_cases h:59∈s
 rw[ay h,ay h,b5 h];exact⟨_,rfl⟩
 rw[ag h,ag h,bO h];exact⟨_,rfl⟩
theorem U9 (w:World) (e:rx w) (s:List UInt8) (b:s.length≤1000000):
 Calls prog 270 [.string (bs s)].toArray w (nn (IY s w) w):=by
 obtain⟨x,f⟩:=U8 s;refine aW func270 ntmps270 ?_;refine ah ?_;intro u y z;refine ax ?_;refine ao (v:= .tuple #[.string x,.string (bs (jN s)),.bool (decide (59∈s))]) rfl E4 rfl (λw' _=>by have h:=Bi w' s 59 b;rw[f] at h;exact h) ?_;refine bB ?_;refine wD rfl Uc rfl (λw' g=>Ue w' (e.ext g.ext) s 59 b) (λA i j l m a n B o p=>?_);have q:Ext [] w i:=a.ext.dZ n
 have r:=a.ei
 refine aL ?_;intro C c;exact⟨_,rfl,q.trans c.ext r,j,l,m,rfl,(p.ext c.ext (λk d t=>by have:=o k t;omega)).dJ (λk d=>fs a.ext.size d)⟩
def tG (L:List (List UInt8)):lx:=if 2<L.length then ⟨4,(codeF (L.getD 2 [])).1,(codeF (L.getD 2 [])).2,[]⟩ else me 4
theorem Cl {L:List (List UInt8)} {m:Nat} (h: ∀x∈L,x.length≤m) (i:Nat): (L.getD i []).length≤m:=by
 rw[fB];cases a:L[i]? with
 | none=>exact bP _
 | some x=>exact h x (dc a)
theorem U_ (w:World) (F:Nat→Prop) (A:Option Addr) (n c:Nat) (L:List (List UInt8)) (i:Rd jL w F A n c L) (rest:ByteArray) (more:Bool) (j: ∀x∈L,x.length≤1000000):
 Calls prog 353 [.agg #[.slice A n c,.string rest,.bool more]].toArray w (λe w'=>e= .returned (.agg (tG L).cells.toArray)∧Ext [] w w'):=by
 refine aW func353 ntmps353 ?_;refine ah ?_;intro f m o;refine ar ?_;intro g p q;refine al ?_;intro h r s;refine ax ?_;refine cL (H':=af w [] [aE h (me 4).cells 163,aE g (me 0).cells 163,aE f [.slice A n c,.string rest,.bool more] 333]) ?_ (Sub.refl _) (λx a=>af.IX a ab);refine ah ?_;refine ao rfl wY rfl (λw' k=>yy w' F A n c L (i.ext k.ext av) 2) ?_;refine bB ?_;refine aj (λb=>?_) (λb=>?_);refine aq ?_;refine ao rfl OU rfl (λw' _=>U0 w' (L.getD 2 []) (Cl j 2)) ?_;refine aR ?_;refine cL (H':=af w [] [aE h (tG L).cells 163,aE g (me 0).cells 163,aE f [.slice A n c,.string rest,.bool more] 333]) ?_ (Sub.refl _) (λx a=>af.IX a (by rw[tG,ay b];rfl));refine aD ?_;intro l d;exact⟨rfl,d.ext⟩;refine aR ?_;intro l d;exact⟨by rw[tG,ag b];rfl,d.ext⟩
theorem Va (w:World) (u:pc w) (F:Nat→Prop) (A:Option Addr) (n c:Nat) (L:List (List UInt8)) (r:Rd jL w F A n c L) (rest:ByteArray) (more m:Bool) (s: ∀x∈L,x.length≤1000000):
 Calls prog 272 [.agg #[.slice A n c,.string rest,.bool more],.bool m].toArray w (λe w'=>e= .returned (.agg (kf m (L.getD 1 []) (L.getD 2 []) (decide (2<L.length))).cells.toArray)∧Ext [] w w'):=by
 have B:=Cl s 1
 have y:=Cl s 2
 have z:tG L=if decide (2<L.length)=true then ⟨4,(codeF (L.getD 2 [])).1,(codeF (L.getD 2 [])).2,[]⟩ else me 4:=by
  unfold tG;by_cases h:2<L.length
  rw[ay h,ay (b5 h)];rw[ag h,ag (by simpa using h)]
 have C:=Cf _ (L.getD 2 []) (ch _)
 refine aW func272 ntmps272 ?_;refine ah ?_;intro D E G;refine ar ?_;intro H I J;refine al ?_;refine ao rfl wY rfl (λw' f=>yy w' F A n c L (r.ext f.ext av) 1) ?_;refine bp ?_;refine ao rfl wY rfl (λw' f=>yy w' F A n c L (r.ext f.ext av) 2) ?_;refine aJ ?_;generalize L.getD 1 []=v at *
 generalize K:L.getD 2 []=b at *
 refine bp ?_;refine aj (λg=>?_) (λg=>?_);refine aR ?_;intro d a;exact⟨by rw[kf,ay g];rfl,a.ext⟩;refine al ?_;refine aj (λj=>?_) (λj=>?_);refine aR ?_;intro d a;exact⟨by rw[kf,ag g,ay j];rfl,a.ext⟩;refine al ?_;refine aj (λo=>?_) (λo=>?_);refine aR ?_;intro d a;exact⟨by rw[kf,ag g,ag j,ay o];rfl,a.ext⟩;refine al ?_;refine aj (λp=>?_) (λp=>?_);refine ah ?_;refine ao rfl Ol rfl (λw' f=>U_ w' F A n c L (r.ext f.ext av) rest more s) ?_;refine aD ?_;intro d a;refine⟨?_,a.ext⟩;rw[kf,ag g,ag j,ag o,ay p,←z];rfl
 refine al ?_;refine aj (λq=>?_) (λq=>?_);have k:kf m v b (decide (2<L.length))=if m=true∧decide (2<L.length)=true then nY 5 (hY b) else nX:=by rw[kf,ag g,ag j,ag o,ag p,ay q]
 refine aS ?_;refine aX 40 rfl (λl=>?_) (λl=>?_);refine ax ?_;refine aj (λi=>?_) (λi=>?_);refine ah ?_;refine ao rfl E5 rfl (λw' f=>IW w' (u.ext f.ext) b y) ?_;refine ao rfl sq rfl (λw' _=>tF w' 5 (hY b) aa) ?_;refine aD ?_;intro d a;exact⟨by rw[k,ay ⟨l,b5 i⟩];rfl,a.ext⟩;refine bp ?_;intro d a;exact⟨by rw[k,ag (λh=>i (a1 h.2))];rfl,a.ext⟩;refine dx ?_;intro d a;exact⟨by rw[k,ag (λh=>by rw[l] at h;cases h.1)];rfl,a.ext⟩;refine al ?_;refine aj (λt=>?_) (λt=>?_);have k:kf m v b (decide (2<L.length))=if m=true∧b.take 4=tD then nY 6 (hY (b.drop 4)) else nX:=by rw[kf,ag g,ag j,ag o,ag p,ag q,ay t]
 refine ah ?_;refine ao rfl EQ rfl (λw' _=>IA w' b tD aa aZ) ?_;refine bp ?_;refine aX 54 rfl (λl=>?_) (λl=>?_);refine ax ?_;refine aj (λi=>?_) (λi=>?_);have M: (b.drop 4).length≤b.length:=by rw[fK];omega
 have N:=Cf _ (b.drop 4) (ch _)
 rw[show (if b.take tD.length=tD then b.drop tD.length else b)=b.drop 4 from ay i];refine ah ?_;refine ao rfl E5 rfl (λw' f=>IW w' (u.ext f.ext) (b.drop 4) aa) ?_;refine ao rfl sq rfl (λw' _=>tF w' 6 (hY (b.drop 4)) aa) ?_;refine aD ?_;intro d a;exact⟨by rw[k,ay ⟨l,i⟩];rfl,a.ext⟩;refine bp ?_;intro d a;exact⟨by rw[k,ag (λh=>i h.2)];rfl,a.ext⟩;refine dx ?_;intro d a;exact⟨by rw[k,ag (λh=>by rw[l] at h;cases h.1)];rfl,a.ext⟩;refine bp ?_;intro d a;exact⟨by rw[kf,ag g,ag j,ag o,ag p,ag q,ag t];rfl,a.ext⟩
theorem Vb (s:List UInt8) (p:List UInt8 × List UInt8) (h:pd s=some p):p.2.length≤s.length:=by
 unfold pd at h
 split at h
 split at h
 cases h
 cases h
 have:=yq _ ((s.drop 7).drop (Lib.indexByte (s.drop 7) 47).toNat) (ch _)
 rw[fK,fK] at this
 dsimp only;omega
 cases h
structure vF (w:World):Prop where
 l:fy w
 e:pc w
 m:rx w
theorem vF.ext {w w':World} (h:vF w) (a:Ext [] w w'):vF w':=⟨h.l.ext a,h.e.ext a,h.m.ext a⟩
set_option maxHeartbeats 1000000 in
theorem IZ (w:World) (F:vF w) (s:List UInt8) (J:s.length≤1000000):
 Calls prog 182 [.string (bs s)].toArray w (λe w'=>e= .returned (.agg (ly s).cells.toArray)∧Ext [] w w'):=by
 have K: ∀x∈fH 59 s,x.length≤1000000:=λx L=>by have:=(IB 59 s x L).2;omega
 have Y:=U7 s
 have b:ly s=if jM s=[49,51,51]∨jM s=[54,51,51] then kf (decide (jM s=[54,51,51])) (Cg s) (Ch s) (jq s) else if jM s=[55] then tE (jN s) else if jM s=[49,51,51,55] then oV (jN s) else if (jM s=[48]∨jM s=[50])∧59∈s then nY 8 (jN s) else nX:=rfl
 have l:=λw'=>UA w' (jN s) aa
 have M:=Vb (jN s)
 refine aW func182 ntmps182 ?_;refine ah ?_;intro z Z Za;refine ax ?_;refine mC (R:=λN=>IY s N) rfl NU rfl (λw' g=>U9 w' (F.ext g.ext).m s J) (λO o v G P Zb Q S=>?_);obtain⟨A,n,c,rfl,T⟩:=S;have U:Ext [] w o:=G.ext.dZ P
 have V:=G.ei
 have d: ∀w',Ext (aA [aE z [.int .i64 0,.int .i64 0,.bool false,.string ByteArray.empty] 163]) o w'→Ext [] w w':=λw' h=>U.trans h V
 have H: ∀w',Ext (aA [aE z [.int .i64 0,.int .i64 0,.bool false,.string ByteArray.empty] 163]) o w'→Rd jL w' (λk=>O.heap.size≤k) A n c (fH 59 s):=λw' h=>T.ext h (λk Zc W=>by have:=Q k W;omega)
 refine ar ?_;intro Zd Ze Zf;refine aD ?_;refine ao rfl wY rfl (λw' g=>yy w' _ A n c _ (H w' g.ext) 0) ?_;refine aJ ?_;rw[show (fH 59 s).getD 0 []=jM s from rfl];have I: ∀q w',Ext (aA [aE z [.int .i64 0,.int .i64 0,.bool false,.string ByteArray.empty] 163]) o w'→Calls prog 272 [.agg #[.slice A n c,.string (bs (jN s)),.bool (decide (59∈s))],.bool q].toArray w' (λe X=>e= .returned (.agg (kf q (Cg s) (Ch s) (jq s)).cells.toArray)∧Ext [] w' X):=λq w' h=>Va w' (F.ext (d w' h)).e _ A n c _ (H w' h) _ _ q K
 generalize Zg:jM s=one at *
 generalize Zh:jN s=rest at *
 refine bB ?_;refine aj (λr=>?_) (λr=>?_);refine aq ?_;refine eA rfl ((b5 r)) ?_;refine ax ?_;refine ao rfl EO rfl (λw' g=>I (decide (one=[54,51,51])) w' g.ext) ?_;refine aD ?_;intro f a;exact⟨by rw[b,ay (.inl r)];rfl,d _ a.ext⟩;refine ax ?_;refine aj (λB=>?_) (λB=>?_);refine ax ?_;refine ao rfl EO rfl (λw' g=>I (decide (one=[54,51,51])) w' g.ext) ?_;refine aD ?_;intro f a;exact⟨by rw[b,ay (.inr B)];rfl,d _ a.ext⟩;rw[ag (λh=>h.elim r B)] at b
 refine al ?_;refine aj (λC=>?_) (λC=>?_);rw[ay C] at b
 cases j:pd rest with
 | some p=>
  have Zi:=M p j
  rw[show pe rest= .tuple #[.string (bs p.1),.string (bs p.2),.int .i64 0] by rw[pe,j]] at l
  refine aS ?_;refine ao rfl EP rfl (λw' _=>l w') ?_;refine eM ?_;refine ao rfl sq rfl (λw' _=>tF w' 6 p.2 aa) ?_;refine aD ?_;intro f a;exact⟨by rw[b,tE,j];rfl,d _ a.ext⟩
 | none=>
  rw[show pe rest= .tuple #[.string (bs []),.string (bs []),.int .i64 4] by rw[pe,j]] at l
  refine aS ?_;refine ao rfl EP rfl (λw' _=>l w') ?_;refine uN ?_;intro f a;exact⟨by rw[b,tE,j];rfl,d _ a.ext⟩
 rw[ag C] at b
 refine al ?_;refine aj (λD=>?_) (λD=>?_);rw[ay D] at b
 refine aL ?_;refine aj (λt=>?_) (λt=>?_);refine bp ?_;intro f a;exact⟨by rw[b,oV,ay (show rest=yw from t)];rfl,d _ a.ext⟩;refine al ?_;refine ao rfl EQ rfl (λw' _=>IA w' rest ry aa aZ) ?_;refine bB ?_;refine aj (λu=>?_) (λu=>?_);rw[show (if rest.take ry.length=ry then rest.drop ry.length else rest)=rest.drop 11 from ay u];refine ah ?_;refine ao rfl sq rfl (λw' _=>tF w' 6 (rest.drop 11) (by rw[fK];omega)) ?_;refine aD ?_;intro f a;exact⟨by rw[b,oV,ag (show ¬rest=yw from t),ay (show rest.take 11=ry from u)];rfl,d _ a.ext⟩;refine bp ?_;intro f a;exact⟨by rw[b,oV,ag (show ¬rest=yw from t),ag (show ¬rest.take 11=ry from u)];rfl,d _ a.ext⟩;rw[ag D] at b
 refine aD ?_;refine aj (λy=>?_) (λy=>?_);refine aq ?_;refine eA rfl ((b5 y)) ?_;refine al ?_;refine aj (λi=>?_) (λi=>?_);refine aS ?_;refine ao rfl sq rfl (λw' _=>tF w' 8 rest aa) ?_;refine aD ?_;intro f a;exact⟨by rw[b,ay ⟨.inl y,i⟩];rfl,d _ a.ext⟩;refine bp ?_;intro f a;exact⟨by rw[b,ag (λh=>i h.2)];rfl,d _ a.ext⟩;refine ax ?_;refine aj (λE=>?_) (λE=>?_);refine al ?_;refine aj (λi=>?_) (λi=>?_);refine aS ?_;refine ao rfl sq rfl (λw' _=>tF w' 8 rest aa) ?_;refine aD ?_;intro f a;exact⟨by rw[b,ay ⟨.inr E,i⟩];rfl,d _ a.ext⟩;refine bp ?_;intro f a;exact⟨by rw[b,ag (λh=>i h.2)];rfl,d _ a.ext⟩;refine bp ?_;intro f a;exact⟨by rw[b,ag (λh=>h.1.elim y E)];rfl,d _ a.ext⟩
end Go.Proofs.YtoghoobfpcadbaaGreatDoor.Mq.Os
namespace Go.Proofs.YtoghoobfpcadbaaGreatDoor.Mq
open Go Go.RowKit Go.Proofs Tryz
section
structure bN where
 W:World
structure tH [Inhabited bN] (w:World):Prop where
 ai: ∀k,k<8→w.heap[k]? = (default:bN).W.heap[k]?
 yz:cO.mK w
 it:dz.fy w
 os:Os.vF w
theorem yA {w w':World} (h: ∀k,0≤k→k<8→w'.heap[k]? = w.heap[k]?) {g o:Nat} (a:g<8):w'.cell? ⟨g,o,none⟩=w.cell? ⟨g,o,none⟩:=World.cell?_of_block (w:=w) (h g (bP _) a)
theorem I0 {w w':World} (h: ∀k,0≤k→k<8→w'.heap[k]? = w.heap[k]?) (a:dz.fy w):dz.fy w':=by
 have b:prog.globalNamed "internal/strconv.uint64pow10" = some 2:=by kernel_rfl
 unfold dz.fy Lib.TabIs World.var? at *
 rw[b] at a ⊢
 simp only[Option.bind_some] at a ⊢
 rw[h 2 aZ aZ];exact a
theorem tH.loc [Inhabited bN] (w w':World) (h: ∀k,0≤k→k<8→w'.heap[k]? = w.heap[k]?) (a:tH w):tH w':=by
 refine⟨λk c=>(h k (bP _) c).trans (a.ai k c),λj d=>?_,I0 h a.it,I0 h a.os.l,?_,?_⟩;rw[yA h aZ];exact a.yz j d
 obtain⟨⟨t,p,b⟩,f,gg,g⟩:=a.os.e;exact⟨⟨t,p,by rw[yA h aZ];exact b⟩,f,gg,by rw[yA h aZ];exact g⟩;obtain⟨m,b⟩:=a.os.m;exact⟨m,by rw[yA h aZ];exact b⟩
def eh [Inhabited bN]:Chunk:=rn 0 8 tH tH.loc
def vG [Inhabited bN] (X:Chunk):Prop:= ∀w,X.pred w→tH w
section
variable {b:World} {S:List Nat} {cs:List Chunk} {w:World}
theorem af.eg (h:af b S cs w) {l:List Chunk} (a:Has cs (aU l)) {c:Chunk} (d:Has l c):c.pred w:=h.SN a d
theorem af.vH {l cs':List Chunk} {X:Chunk} (h:af b S cs w) (f:aB cs [aU l,X] cs'): ∀w',Ext (aA l) w w'→X.pred w':=λw' g=>by
 have a:=h.perm f.perm
 have c:=a.all X av
 have d:=a.nodup
 refine X.loc w w' (λk e=>g.block k (X.low w c k e) (λi=>?_)) c;have ak:aA (aU l::X::cs')=aA l++(X.cm++aA cs'):=by simp[aA,aU]
 rw[show [aU l,X]++cs'=aU l::X::cs' from rfl,ak] at d
 exact (fS.1 d).2.2 k i k (oc _ e) rfl
end
structure kQ (T bu:bK):Prop where
 use:bu.use=T.use
 am:bu.am.g=T.am.g
 bk:bu.bk.g=T.bk.g
section
variable {P:Program} {n:Nat} {ops:Array Oper} {Q:cq} {rest:List Oper} {l:Fr} {d:Nat} {ty:TypeId} {pos:String} {a6:Array Edge}
variable {b:World} {S:List Nat} {args:List Operand} {da:Array TypeId} {f:FuncId} {vs:List Value} {v:Value} {g par k m p:Nat} {R:Int} {T:bK} {X:Chunk}
theorem fA [Inhabited bN] (i:cp g R m T) (ai:p=T.am.g) (ak:Nat.blt d n=true) (j:ad P f) (o:cM l args=some (ptr p::vs))
 (q: ∀w,a8 w (aP T.am)→(∀w',Ext (aA (aP T.am)) w w'→X.pred w')→Calls P f (ptr T.am.g::vs).toArray w (d8 k T.am v w))
 (h: ∀bu:bK,cp g R (m+k) bu→p=bu.am.g→kQ T bu→az P n ops Q rest ((d,v)::l) (af b S (bz g par X bu))):
 az P n ops Q (⟨some d,.call ⟨.value (.func f),args.toArray,da⟩,ty,pos,a6,none⟩::rest) l (af b S (bz g par X T)):=by
 subst ai;refine kH (l0:=aP T.am) (l':=aP) (cs1:=λz=>[eE g par T,aU (aP z),aU (aP T.bk),T.buf.au,T.aG.au,X]) (λz=>bn.tail bn.head) ak j o (λw e=>q w (e.kG (Has.tail Has.head)) (e.vH ae)) (λz a=>?_);have c:=h { T with am:=z } (i.rp a) a.g.symm ⟨rfl,a.g,rfl⟩
 simp only[bz] at c
 rw[rq a.g] at c
 exact c
theorem Vc [Inhabited bN] (i:cp g R m T) (ak:Nat.blt d n=true) (j:ad P f) (o:cM l args=some vs)
 (p: ∀w,a8 w (aP T.am)→(∀w',Ext (aA (aP T.am)) w w'→X.pred w')→Calls P f vs.toArray w (d8 k T.am v w))
 (h: ∀bu:bK,cp g R (m+k) bu→kQ T bu→az P n ops Q rest ((d,v)::l) (af b S (bz g par X bu))):
 az P n ops Q (⟨some d,.call ⟨.value (.func f),args.toArray,da⟩,ty,pos,a6,none⟩::rest) l (af b S (bz g par X T)):=by
 refine kH (l0:=aP T.am) (l':=aP) (cs1:=λz=>[eE g par T,aU (aP z),aU (aP T.bk),T.buf.au,T.aG.au,X]) (λz=>bn.tail bn.head) ak j o (λw e=>p w (e.kG (Has.tail Has.head)) (e.vH ae)) (λz a=>?_);have c:=h { T with am:=z } (i.rp a) ⟨rfl,a.g,rfl⟩
 simp only[bz] at c
 rw[rq a.g] at c
 exact c
theorem I1 [Inhabited bN] {eY:Chunk} (i:cp g R m T) (ak:Nat.blt d n=true) (j:ad P f) (o:cM l args=some vs)
 (p: ∀w,a8 w (aP T.am)→(∀w',Ext (aA (aP T.am)) w w'→X.pred w')→Calls P f vs.toArray w (d8 k T.am v w))
 (h: ∀bu:bK,cp g R (m+k) bu→kQ T bu→az P n ops Q rest ((d,v)::l) (af b S (eY::bz g par X bu))):
 az P n ops Q (⟨some d,.call ⟨.value (.func f),args.toArray,da⟩,ty,pos,a6,none⟩::rest) l (af b S (eY::bz g par X T)):=by
 refine kH (l0:=aP T.am) (l':=aP) (cs1:=λz=>eY::[eE g par T,aU (aP z),aU (aP T.bk),T.buf.au,T.aG.au,X]) (λz=>bn.tail (bn.tail bn.head)) ak j o (λw e=>p w (e.kG (Has.tail (Has.tail Has.head))) (e.vH ae)) (λz a=>?_);have c:=h { T with am:=z } (i.rp a) ⟨rfl,a.g,rfl⟩
 simp only[bz] at c
 rw[rq a.g] at c
 exact c
theorem vI [Inhabited bN] (i:cp g R m T) (ai:p=T.bk.g) (ak:Nat.blt d n=true) (j:ad P f) (o:cM l args=some (ptr p::vs))
 (q: ∀w,a8 w (aP T.bk)→(∀w',Ext (aA (aP T.bk)) w w'→X.pred w')→Calls P f (ptr T.bk.g::vs).toArray w (d8 k T.bk v w))
 (h: ∀bu:bK,cp g R (m+k) bu→p=bu.bk.g→kQ T bu→az P n ops Q rest ((d,v)::l) (af b S (bz g par X bu))):
 az P n ops Q (⟨some d,.call ⟨.value (.func f),args.toArray,da⟩,ty,pos,a6,none⟩::rest) l (af b S (bz g par X T)):=by
 subst ai;refine kH (l0:=aP T.bk) (l':=aP) (cs1:=λz=>[eE g par T,aU (aP T.am),aU (aP z),T.buf.au,T.aG.au,X]) (λz=>bn.tail (bn.tail bn.head)) ak j o (λw e=>q w (e.kG (Has.tail (Has.tail Has.head))) (e.vH ae)) (λz a=>?_);have c:=h { T with bk:=z } (i.Tq a) a.g.symm ⟨rfl,rfl,a.g⟩
 simp only[bz] at c
 rw[Tr a.g] at c
 exact c
theorem ge (ak:Nat.blt d n=true) (a:ad P f) (c:cM l args=some vs)
 (e: ∀w,a8 w (bz g par X T)→Calls P f vs.toArray w (hy g par X R m v T w))
 (h: ∀bu:bK,cp g R m bu→az P n ops Q rest ((d,v)::l) (af b S (bz g par X bu))):
 az P n ops Q (⟨some d,.call ⟨.value (.func f),args.toArray,da⟩,ty,pos,a6,none⟩::rest) l (af b S (bz g par X T)):=
 aY (l0:=bz g par X T) ae ak a c (λw i=>e w (i.bo ae)) h
theorem ek [Inhabited bN] {eY:Chunk} (i:cp g R m T) (ai:p=T.am.g) (ak:Nat.blt d n=true) (j:ad P f) (o:cM l args=some (ptr p::vs))
 (q: ∀w,a8 w (aP T.am)→(∀w',Ext (aA (aP T.am)) w w'→X.pred w')→Calls P f (ptr T.am.g::vs).toArray w (d8 k T.am v w))
 (h: ∀bu:bK,cp g R (m+k) bu→p=bu.am.g→kQ T bu→az P n ops Q rest ((d,v)::l) (af b S (eY::bz g par X bu))):
 az P n ops Q (⟨some d,.call ⟨.value (.func f),args.toArray,da⟩,ty,pos,a6,none⟩::rest) l (af b S (eY::bz g par X T)):=by
 subst ai;refine kH (l0:=aP T.am) (l':=aP) (cs1:=λz=>eY::[eE g par T,aU (aP z),aU (aP T.bk),T.buf.au,T.aG.au,X]) (λz=>bn.tail (bn.tail bn.head)) ak j o (λw e=>q w (e.kG (Has.tail (Has.tail Has.head))) (e.vH ae)) (λz a=>?_);have c:=h { T with am:=z } (i.rp a) a.g.symm ⟨rfl,a.g,rfl⟩
 simp only[bz] at c
 rw[rq a.g] at c
 exact c
theorem gZ {eY:Chunk} (ak:Nat.blt d n=true) (c:ad P f) (j:cM l args=some vs)
 (k: ∀w,a8 w (bz g par X T)→Calls P f vs.toArray w (hy g par X R m v T w))
 (h: ∀bu:bK,cp g R m bu→az P n ops Q rest ((d,v)::l) (af b S (eY::bz g par X bu))):
 az P n ops Q (⟨some d,.call ⟨.value (.func f),args.toArray,da⟩,ty,pos,a6,none⟩::rest) l (af b S (eY::bz g par X T)):=by
 refine gO rfl ak c j λw a=>?_
 have:=k w (a.bo ae)
 simp only[iA,iX];refine this.mono ?_;rintro e w' ⟨i,hi,rfl,o⟩;exact⟨v,rfl,(h i hi).at ((a.pU ae o).perm (og (l₁:=bz g par X i) (l₂:=[eY])))⟩
theorem I2 {eY rz:Chunk} (ak:Nat.blt d n=true) (c:ad P f) (j:cM l args=some vs)
 (k: ∀w,a8 w (bz g par X T)→Calls P f vs.toArray w (hy g par X R m v T w))
 (h: ∀bu:bK,cp g R m bu→az P n ops Q rest ((d,v)::l) (af b S (eY::rz::bz g par X bu))):
 az P n ops Q (⟨some d,.call ⟨.value (.func f),args.toArray,da⟩,ty,pos,a6,none⟩::rest) l (af b S (eY::rz::bz g par X T)):=by
 refine gO rfl ak c j λw a=>?_
 have:=k w (a.bo ae)
 simp only[iA,iX];refine this.mono ?_;rintro e w' ⟨i,hi,rfl,o⟩;exact⟨v,rfl,(h i hi).at ((a.pU ae o).perm (og (l₁:=bz g par X i) (l₂:=[eY,rz])))⟩
end
theorem nZ (w:World) (g par:Nat) (X:Chunk) (T:bK) (b:a8 w (bz g par X T)) {R:Int} {m:Nat} (a:cp g R m T) (s:List UInt8) (h:m≤900000000000) (i:s.length≤1000):
 Calls prog 175 [ptr g,.string (bs s)].toArray w (hy g par X R (m+1000) (.tuple #[]) T w):=by
 have j:=a.buf
 refine bC func175 ntmps175 b ?_;refine ax ?_;refine aY (l0:=[eE g par T,T.buf.au]) ae rfl Ek rfl (λc d=>BX c g par T (d.bo ae) a.bL s aa) (λz e=>?_);refine aq ?_;intro k f;exact aN { BW g T with buf:=z } ⟨a.am,a.bk,a.room,.inr rfl,a.cl,fs a.be aa,by rw[e,b8];omega,a.aG,a.md⟩ f
theorem rA (w:World) (g par:Nat) (T:bK) (d: (eE g par T).pred w) (c:T.am.an.pred w) (ai:T.am.ap.an.pred w) (f:2≤T.am.ap.cols∧T.am.ap.cols≤1000):Calls prog 233 [ptr g].toArray w (Pure (.int .i64 (min T.am.x (T.am.ap.cols - 1))) w):=by
 refine aW func233 ntmps233 ?_;refine aL ?_;refine ao rfl fc rfl (λa b=>fe a g par T (b.dK d av)) ?_;refine al ?_;refine ao rfl ja rfl (λa b=>jp a T.am (b.dK c av)) ?_;refine j9 (t:=51) (off:=0) ab dN rfl rfl rfl ?_;refine HD (t:=3) (off:=1) ab bM rfl rfl rfl ?_;refine ar ?_;refine ao rfl jV rfl (λa b=>j3 a T.am (b.dK c av)) ?_;refine ao rfl zX rfl (λa b=>AG a T.am.ap (b.dK ai av)) ?_;refine aD ?_;intro h e;exact⟨rfl,e.ext⟩
end
end Go.Proofs.YtoghoobfpcadbaaGreatDoor.Mq
