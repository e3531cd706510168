/- part 29 of the proof -/
import Derived.Test.YtlgnfdodnhokjaaGreatDoorQ25
import Derived.Test.YtlgnfdodnhokjaaGreatDoorQ26
import Derived.Test.YtlgnfdodnhokjaaGreatDoorQ28
import Derived.Laws.RangeAny
import Derived.Shelf.GgClosure.StringsIndexFuncTop
namespace Go.Proofs.YtlgnfdodnhokjaaGreatDoor.Mq.Os
open Go Go.RowKit Go.Proofs Tryz
def kU (r:Nat):Bool:=decide (48≤r) && decide (r≤57)
def By:Shelf.Ren:=⟨λ| 15=>366 | 20=>414 | n=>n,λ| 0=>0 | 3=>3 | 4=>4 | 9=>9 | 21=>21 | 23=>298 | n=>n,λn=>n⟩
theorem Bz:LaysGw.n15 prog By where
 mixed:=by kernel_rfl
 f15:=func366.trans (aU some ab)
 f20:=func414.trans (aU some ab)
 t0:=underlying0
 a0:=isAgg0
 z0:=sizeOf0
 v0:=zeroValue0
 i0:=by kernel_rfl
 t3:=underlying3
 a3:=isAgg3
 z3:=sizeOf3
 v3:=zeroValue3
 i3:=by kernel_rfl
 t4:=underlying4
 a4:=isAgg4
 z4:=sizeOf4
 v4:=zeroValue4
 i4:=by kernel_rfl
 t9:=underlying9
 a9:=isAgg9
 z9:=sizeOf9
 v9:=zeroValue9
 i9:=by kernel_rfl
 t21:=underlying21
 a21:=isAgg21
 z21:=sizeOf21
 v21:=zeroValue21
 i21:=by kernel_rfl
 t23:=underlying298
 a23:=isAgg298
 z23:=sizeOf298
 v23:=zeroValue298
 i23:=by kernel_rfl
theorem Jx (s:List UInt8): ∀(f pos:Nat),s.length≤f+pos→(Lib.idxFuncFrom (λr=> !kU r) true (bs s) f pos<0↔ ∀(j:Nat) (c:UInt8),pos≤j→s[j]? = some c→kU c.toNat=true)
 | 0,pos,h=>by
  constructor
  intro _ j c e a;have:=(cK.1 a).1
  omega
  intro _;simp[Lib.idxFuncFrom]
 | f+1,pos,h=>by
  unfold Lib.idxFuncFrom;rw[hH];by_cases ai:pos<s.length
  rw[aw ai];have g:pos<(bs s).size:=by rw[hH];exact ai
  have i: (bs s)[pos]'g=s[pos]:=by simp[bs,ByteArray.getElem_eq_getElem_data]
  by_cases l: (s[pos]).toNat<128
  have ak:=decode_ascii (bs s) pos g (by rw[i];exact l)
  rw[i] at ak
  rw[ak];dsimp only;by_cases d:kU (s[pos]).toNat=true
  rw[ag (by simp[d]),Jx s f (pos+1) aa];constructor
  intro b j c e a;by_cases m:j=pos
  subst m;rw[bE ai] at a
  simp only[dA] at a
  rw[←a];exact d
  exact b j c aa a;intro b j c e a;exact b j c aa a;rw[aw (by simp[d])];constructor
  intro n;omega
  intro b;exact absurd (b pos s[pos] (bW _) (bE ai)) d;have ak:=decode_high (bs s) pos g (by rw[i];omega)
  have k: ∀r,128≤r→kU r=false:=λr o=>by simp[kU];omega
  rw[aw (by simp[k _ ak.1])];constructor
  intro n;omega
  intro b;have:=b pos s[pos] (bW _) (bE ai)
  rw[k _ aa] at this
  cases this
  rw[ag ai];constructor
  intro _ j c e a;have:=(cK.1 a).1
  omega
  intro _;omega
theorem Vx:ad prog 433:=ad.of func433 ab ab
theorem Vy (w:World) (r:Nat):
 Calls prog 433 [.int .i32 (r:Int)].toArray w (λe w'=>e= .returned (.bool (!kU r))∧w'=w):=by
 refine calls (n:=9) func433 rfl ntmps433 rfl ?_;refine aQ ?_;refine aW 5 rfl (λa=>?_) (λa=>?_);have c:=aX a
 refine aK ?_;intro d b;refine⟨?_,b⟩;rw[show kU r=false by unfold kU;rw[cg aa];rfl];rfl
 have c:=bd a
 refine aQ ?_;intro d b;refine⟨?_,b⟩;congr 2
 unfold kU;rw[bX (show 48≤r by omega),Bool.true_and];by_cases h:r≤57
 rw[bX h,cg aa];rfl
 rw[cg h,bX aa];rfl
theorem Vz (w:World) (s:List UInt8):
 Calls prog 366 [.string (bs s),.func (.func 433) #[] #[]].toArray w (λe w'=> ∃n:Int,e= .returned (.int .i64 n)∧decide (0≤n)= !s.all po∧Ext [] w w'):=by
 refine Calls.mono (Any.strings_IndexFunc Bz 433 #[] (λargs w=>zp Vx args w) (λr=> !kU r) (bs s) w (λW x _=>?_)) (λe f h=>⟨_,h.1,?_,Ext.sk h.2⟩);refine Calls.mono (Vy W x) (λe f h=>⟨h.1,0,?_⟩);rw[h.2];rfl
 have:=Jx s s.length 0 aa
 rw[Lib.idxFunc,hH];have b: (s.all po=true)↔Lib.idxFuncFrom (λr=> !kU r) true (bs s) s.length 0<0:=by
  rw[this,i_];constructor
  intro h j c _ a;have:=aX (h c (da a))
  unfold kU;rw[bX this.1,bX this.2];rfl
  intro h c a;obtain⟨j,g⟩:=qK a;have:=h j c (bP _) g
  unfold kU at this
  rw[d4,e9,e9] at this
  exact bX this
 cases d:s.all po with
 | true=>
  have:=b.1 d
  rw[cg aa];rfl
 | false=>
  have: ¬Lib.idxFuncFrom (λr=> !kU r) true (bs s) s.length 0<0:=λh=>by
   have:=b.2 h
   rw[d] at this;cases this
  rw[bX aa];rfl
theorem VA:ad prog 451:=ad.of func451 ab ab
theorem VB (w:World) (s p:List UInt8) (b:s.length≤9223372036854775807) (ai:p.length≤9223372036854775807):Calls prog 451 [.string (bs s),.string (bs p)].toArray w (λe w'=>e= .returned (.string (bs (if s.take p.length=p then s.drop p.length else s)))∧Ext [] w w'):=by
 refine aV func451 ntmps451 ?_;refine aQ ?_;refine ao rfl Jc rfl (λw' _=>Jd w' s p b ai) ?_;refine aq ?_;refine aj (λh=>?_) (λh=>?_);have d:p.length≤s.length:=by have:=aU List.length h;simp at this;omega
 refine ay ?_;refine pI p.length underlying9 rfl rfl rfl bc aa ?_;refine al ?_;intro c a;exact⟨by rw[aw h],a.ext⟩;refine aQ ?_;intro c a;exact⟨by rw[ag h],a.ext⟩
theorem VC (w:World) (s p:List UInt8) (a:s.length≤9223372036854775807) (ai:p.length≤9223372036854775807):Calls prog 432 [.string (bs s),.string (bs p)].toArray w (λe w'=>e= .returned (.string (bs (if s.take p.length=p then s.drop p.length else s)))∧Ext [] w w'):=by
 refine aV func432 ntmps432 ?_;refine aJ ?_;refine ao rfl VA rfl (λw' _=>VB w' s p a ai) ?_;refine ay ?_;intro c b;exact⟨rfl,b.ext⟩
theorem VD (s:List UInt8): (if s.take [(45 :UInt8)].length=[45] then s.drop [(45 :UInt8)].length else s)=gK s:=by
 unfold gK;cases s with
 | nil=>rfl
 | cons c l=>
  show (if [c]=[45] then l else c::l)=if some c=some 45 then l else c::l
  by_cases h:c=45
  rw[aw (by rw[h]),aw (by rw[h])];rw[ag (λe=>h (List.cons.inj e).1),ag (λe=>h (oA e))]
theorem VE (s:List UInt8): (gK s).length≤s.length:=by
 unfold gK;split
 rw[fJ];omega
 exact bW _
def VF (p:Int × Bool):Value:= .tuple #[.int .i64 p.1,.bool p.2]
theorem Cy {s:List UInt8} (h: ¬(1≤(gK s).length∧(gK s).length≤9∧(gK s).all po=true)):codeF s=(0,false):=by
 unfold codeF;rw[ag];intro a;unfold codeOk at a
 rw[d4,d4,e9,e9] at a
 exact h ⟨a.1.1,a.1.2,a.2⟩
theorem VG (w:World) (s:List UInt8) (l:s.length≤1000000):
 Calls prog 401 [.string (bs s)].toArray w (λe w'=>e= .returned (VF (codeF s))∧Ext [] w w'):=by
 have x:=VE s
 refine aV func401 ntmps401 ?_;refine aJ ?_;refine ao (v:= .string (bs (gK s))) rfl PD rfl (λw' _=>by have h:=VC w' s [45] aa aZ;rw[VD] at h;exact h) ?_;refine aJ ?_;refine aW 11 rfl (λc=>?_) (λc=>?_);have f:=aX c
 refine hr ?_;intro g a;exact⟨by rw[Cy (by rw[f];simp)];rfl,a.ext⟩;have f:=bd c
 refine aK ?_;refine aW 16 rfl (λd=>?_) (λd=>?_);have m:=aX d
 refine dB ?_;intro g a;exact⟨by rw[Cy aa];rfl,a.ext⟩;have m:=bd d
 refine ah ?_;refine mM (R:=λ_ v _=> ∃n:Int,v= .int .i64 n∧decide (0≤n)= !(gK s).all po) rfl Ft rfl (λw' _=>(Vz w' (gK s)).mono (λe y h=>by obtain⟨n,c,d,i⟩:=h;exact⟨_,c,i,n,rfl,d⟩)) (λz o v p q A B r=>?_);obtain⟨n,rfl,b⟩:=r;have j:Ext [] w o:=p.ext.dW q
 refine ay ?_;refine aj (λi=>?_) (λi=>?_);refine aJ ?_;intro g a;rw[bX (show 0≤n by omega)] at b
 exact⟨by rw[Cy (λh=>by rw[h.2.2] at b;cases b)];rfl,j.dW a.ext⟩;rw[cg (show ¬0≤n by omega)] at b
 have k:codeOk s=true:=by
  unfold codeOk;have t:1≤(gK s).length:=uo.2 f
  rw[bX t,bX (show (gK s).length≤9 by omega)];cases u: (gK s).all po with
  | true=>rfl
  | false=>rw[u] at b;cases b
 refine ay ?_;refine ao (v:= .tuple #[.int .i64 (codeF s).1,.nilIface]) rfl U1 rfl (λw' _=>U2 w' s _ l (Vw k)) ?_;refine dB ?_;intro g a;exact⟨by rw[show codeF s=((codeF s).1,true) by unfold codeF;rw[aw k]];rfl,j.dW a.ext⟩
def Jy (a b:UInt8):Value→Prop:=λv=> ∃n:Nat,v= .tuple #[.int .u8 (n:Int),.bool (decide (0≤cP a) && decide (0≤cP b))]∧(0≤cP a→0≤cP b→(n:Int)=(n7 a b).toNat)
theorem VH:cP 43= -1:=by decide
theorem Jz:cP 95= -1:=by decide
theorem VI (w:World) (n:pp w) (a b:UInt8):Calls prog 403 [.string (bs [a,b])].toArray w (nx (λv _=>Jy a b v) w):=by
 have E:=UInt8.toNat_lt a
 have F:=UInt8.toNat_lt b
 refine aV func403 ntmps403 ?_;refine aJ ?_;refine mM (R:=λ_ v _=>Jt a b v) rfl PE rfl (λw' o=>Vt w' (n.ext o.ext) a b) (λG s v u A H I B=>?_);have l:Ext [] w s:=u.ext.dW A
 rcases B with ⟨y,z,J,K,g,i,rfl⟩ | ⟨m,x,t,p,rfl⟩
 refine aK ?_;have j: (a.toNat:Int)≠43:=λe=>by
  have:a=43:=UInt8.toNat_inj.1 (by have: (43 :UInt8).toNat=43:=rfl;omega)
  rw[this,VH] at g;omega
 have k: (a.toNat:Int)≠95:=λe=>by
  have:a=95:=UInt8.toNat_inj.1 (by have: (95 :UInt8).toNat=95:=rfl;omega)
  rw[this,Jz] at g;omega
 have C: (b.toNat:Int)≠95:=λe=>by
  have:b=95:=UInt8.toNat_inj.1 (by have: (95 :UInt8).toNat=95:=rfl;omega)
  rw[this,Jz] at i;omega
 refine eF [0,1,2,3,4,5,6,7,8,9,10,11,12,13,14,15,16,17,18,19,20] 0 [[]] (λ_=>True) mixed ab (λ_ f=>f.drew) (λ_ h=>dp) ?_;refine ar ?_;refine aL rfl (λc d=>(dn (r:=((16*y+z:Nat):Int)) rfl rfl underlying54 underlying5 (by rw[IntKind.wrap_u8];omega) aG)) ?_;refine ar ?_;refine aL rfl (λc d=>(U3 ab rfl rfl aG)) ?_;refine aq ?_;refine aL rfl (λc d=>cC rfl rfl (rfl) (ij (q:=0) underlying9 rfl rfl rfl bc (rfl: [a,b][0]? = some a) aG)) ?_;refine ah ?_;refine aL rfl (λc d=>cC rfl rfl ((bX j)) (ig rfl rfl aG)) ?_;refine aL rfl (λc d=>cC rfl rfl ((bX j)) (ij (q:=0) underlying9 rfl rfl rfl bc (rfl: [a,b][0]? = some a) aG)) ?_;refine aL rfl (λc d=>cC rfl rfl ((bX j)) (wG rfl rfl rfl aG)) ?_;refine aq ?_;refine aL rfl (λc d=>cC rfl rfl ((bX k)) (ig rfl rfl aG)) ?_;refine aL rfl (λc d=>cC rfl rfl ((bX k)) (ij (q:=1) underlying9 rfl rfl rfl bc (rfl: [a,b][1]? = some b) aG)) ?_;refine aL rfl (λc d=>cC rfl rfl ((bX k)) (wG rfl rfl rfl aG)) ?_;refine aK ?_;intro D f;refine⟨_,rfl,l.dW f.ext,16*y+z,?_,λ_ _=>?_⟩;rw[bX C,g,i,bX (show (0 :Int)≤(y:Int) by omega),bX (show (0 :Int)≤(z:Int) by omega)];rfl
 unfold n7;rw[g,i,qU];omega
 refine aK ?_;refine eF [0,1,2,3,4,5,6,7,8,9,10,11,12,13,14,15,16,17,18,19,20] 0 [[]] (λ_=>True) mixed ab (λ_ f=>f.drew) (λ_ h=>dp) ?_;refine ar ?_;refine aL rfl (λc d=>(dn (r:=((x%256 :Nat):Int)) rfl rfl underlying54 underlying5 (by rw[IntKind.wrap_u8];omega) aG)) ?_;refine ar ?_;refine aL rfl (λc d=>(U4 ab rfl rfl aG)) ?_;refine kA ?_;intro D f;refine⟨_,rfl,l.dW f.ext,x%256,?_,λL M=>?_⟩;have: (decide (0≤cP a) && decide (0≤cP b))=false:=by
  rcases m with h | h
  rw[h];rfl
  rw[h,Bool.and_comm];rfl
 rw[this];rcases m with h | h <;> omega
theorem yJ {s:List UInt8} {a b:UInt8}:tO s [a,b]=true↔s.take 2=[a,b]:=by
 unfold tO;rw[d4,e9,e9];constructor
 exact λh=>h.2
 intro h;refine⟨?_,h⟩;have:=aU List.length h
 rw[dl] at this
 simp at this
 show 2≤s.length
 omega
theorem VJ {s:List UInt8} (h:s.take 2=[92,92]):iW s=(2,92):=by unfold iW;rw[aw h]
theorem VK {s:List UInt8} (h:s.take 2=[92,120]) (a:4≤s.length) (b:0≤cP (s.getD 2 0)) (c:0≤cP (s.getD 3 0)):iW s=(4,n7 (s.getD 2 0) (s.getD 3 0)):=by
 unfold iW;rw[ag (by rw[h];decide),aw ⟨h,a,b,c⟩]
theorem Cz {s:List UInt8} (a: ¬s.take 2=[92,92]) (b: ¬(s.take 2=[92,120]∧4≤s.length∧0≤cP (s.getD 2 0)∧0≤cP (s.getD 3 0))):iW s=(1,s.headD 0):=by
 unfold iW;rw[ag a,ag b]
theorem VL {s:List UInt8} {i:Nat} (h:i<s.length):ia (s.drop i)=(iW (s.drop i)).2::ia (s.drop (i+(iW (s.drop i)).1)):=by
 rw[Jw (by intro e;have:=aU List.length e;rw[fJ] at this;simp at this;omega),lJ]
theorem JA (w:World) (U:pp w) (s:List UInt8) (Zq:s.length≤1000000):
 Calls prog 341 [.string (bs s)].toArray w (λe w'=>e= .returned (.string (bs (ia s)))∧Ext [] w w'):=by
 refine aV func341 ntmps341 ?_;refine al ?_;refine jZ 5 1 ?_;refine bp ?_;refine b2 (ι:=Nat × Value × List UInt8) (λt=>[(0,.string (bs s)),(3,t.2.1),(4,.int .i64 (t.1 :Int))]) (λt=>af w [] [own 5 1 t.2.1 t.2.2.length (cz.all t.2.2)]) (λt=>t.1≤s.length∧t.2.2.length≤t.1∧ia s=t.2.2++ia (s.drop t.1)) (λt=>s.length - t.1) ?_ ?_;exact λw' d=>⟨(0,_,[]),⟨bP _,bW _,rfl⟩,(em rfl rfl rfl),d⟩
 rintro⟨i,v,g⟩ ⟨hi,V,r⟩;dsimp only at hi V r ⊢
 refine aJ ?_;refine aj (λW=>?_) (λW=>?_);have o:=VL (s:=s) (i:=i) aa
 have L: (s.drop i).length=s.length - i:=fJ
 obtain⟨c,z⟩ : ∃c,s[i]? = some c:=⟨s[i]'aa,bE _⟩;have D: (s.drop i).headD 0=c:=by
  rw[List.headD_eq_head?_getD,List.head?_drop,z];rfl
 have Zr: ∀k,(s.drop i).getD k 0=s.getD (i+k) 0:=λk=>by rw[fI,mB,fI]
 have G: ∀(X:Value) (Zs:World) (M:iW (s.drop i)=(1,c)),ia s=(g++[c])++ia (s.drop (i+1)):=λ_ _ M=>by rw[r,o,M];simp
 refine aK ?_;refine pI i underlying9 rfl rfl rfl bc aa ?_;refine aC ?_;refine jj rfl Fy rfl (λw' _=>Jn w' (s.drop i) [92,92]) ?_;refine aq ?_;refine b1 rfl (λA=>?_) (λA=>?_);have j:=yJ.1 A
 have f:=VJ j
 have N:=Vu (s:=s.drop i) (by intro e;rw[e] at j;cases j)
 rw[f] at o N
 dsimp only at o N
 have Y:s[i+1]? = some 92:=by
  have:=aU (λl=>l[1]?) j
  rw[iD,aw aZ,mB] at this
  exact this
 refine aQ ?_;refine ij (q:=i+1) underlying9 rfl rfl rfl aa Y ?_;refine ar ?_;intro H I J;refine gx ft rfl rfl rfl bj (λ_=>by exact cA) rfl (io rfl) (by simp only[maxLen];omega) aa (λp K=>?_);refine aJ ?_;refine bi (i+2,p,g++[92]) ⟨by dsimp only;omega,by dsimp only;simp;omega,by rw[r,o];simp⟩ bm (em rfl rfl rfl) (λw' d=>?_);dsimp only;rw[bA.hn cz,b6];exact d;have j: ¬(s.drop i).take 2=[92,92]:=λe=>by rw[yJ.2 e] at A;cases A
 refine ah ?_;refine jj rfl Fy rfl (λw' _=>Jn w' (s.drop i) [92,120]) ?_;refine ar ?_;refine aW 23 rfl (λB=>?_) (λB=>?_);have Z:=yJ.1 B
 refine aJ ?_;refine aj (λC=>?_) (λC=>?_);obtain⟨x,y,a,b,t,ak⟩ : ∃x y a b t,s.drop i=x::y::a::b::t:=by
  match Za:s.drop i with
  | x::y::a::b::t=>exact⟨x,y,a,b,t,rfl⟩
  | [] | [_] | [_,_] | [_,_,_]=>rw[Za] at L C;simp at L C
 have Zb: ((s.drop i).take 4).drop 2=[a,b]:=by rw[ak];rfl
 have Zc: (s.drop i).getD 2 0=a:=by rw[ak];rfl
 have Zd: (s.drop i).getD 3 0=b:=by rw[ak];rfl
 have O:=VK Z aa
 have P:=Cz (s:=s.drop i) j
 rw[Zc,Zd] at O P
 refine ah ?_;refine Mf 2 4 underlying9 rfl rfl rfl rfl bc bc aa aa ?_;rw[Zb];refine mM (R:=λ_ v _=>Jy a b v) rfl Ps rfl (λw' d=>VI w' (U.ext d.ext) a b) (λZt Zu X Q Ze Zv Zw Zf=>?_);obtain⟨n,rfl,Zg⟩:=Zf;have S:=Q.ext.dW Ze
 have T:=Q.ek
 refine bx ?_;refine b1 rfl (λm=>?_) (λm=>?_);rw[d4,e9,e9] at m
 have Zh:=Zg m.1 m.2
 have f:=O m.1 m.2
 rw[f] at o
 dsimp only at o
 refine ay ?_;intro Zx Zy Zz;refine gx ft rfl rfl rfl bj (λ_=>by exact cA) rfl (io rfl) (by simp only[maxLen];omega) aa (λZi ZA=>?_);refine eL ?_;refine bi (i+4,Zi,g++[n7 a b]) ⟨by dsimp only;omega,by dsimp only;simp;omega,by rw[r,o];simp⟩ bm (em rfl rfl rfl) (λw' d=>?_);dsimp only;rw[bA.hn cz,b6];rw[Zh] at d
 exact d.zj S T;have f:=P (λh=>by rw[bX h.2.2.1,bX h.2.2.2] at m;cases m)
 rw[D] at f
 have u:=G v w f
 refine al ?_;refine ij (q:=i) underlying9 rfl rfl rfl aa z ?_;refine ar ?_;intro H I J;refine gx ft rfl rfl rfl bj (λ_=>by exact cA) rfl (io rfl) (by simp only[maxLen];omega) aa (λp K=>?_);refine aJ ?_;refine bi (i+1,p,g++[c]) ⟨by dsimp only;omega,by dsimp only;simp;omega,u⟩ bm (em rfl rfl rfl) (λw' d=>?_);dsimp only;rw[bA.hn cz,b6];exact d.zj S T;have f:=Cz (s:=s.drop i) j (λh=>C (by have:=h.2.1;omega))
 rw[D] at f
 have u:=G v w f
 refine al ?_;refine ij (q:=i) underlying9 rfl rfl rfl aa z ?_;refine ar ?_;intro H I J;refine gx ft rfl rfl rfl bj (λ_=>by exact cA) rfl (io rfl) (by simp only[maxLen];omega) aa (λp K=>?_);refine aJ ?_;refine bi (i+1,p,g++[c]) ⟨by dsimp only;omega,by dsimp only;simp;omega,u⟩ bm (em rfl rfl rfl) (λw' d=>?_);dsimp only;rw[bA.hn cz,b6];exact d;have f:=Cz (s:=s.drop i) j (λh=>by rw[yJ.2 h.1] at B;cases B)
 rw[D] at f
 have u:=G v w f
 refine bH ?_;refine ij (q:=i) underlying9 rfl rfl rfl aa z ?_;refine ar ?_;intro H I J;refine gx ft rfl rfl rfl bj (λ_=>by exact cA) rfl (io rfl) (by simp only[maxLen];omega) aa (λp K=>?_);refine aJ ?_;refine bi (i+1,p,g++[c]) ⟨by dsimp only;omega,by dsimp only;simp;omega,u⟩ bm (em rfl rfl rfl) (λw' d=>?_);dsimp only;rw[bA.hn cz,b6];exact d;have Zj:i=s.length:=by omega
 rw[Zj,List.drop_length,Jv,eu] at r
 refine hE (v:=v) Has.head (λZk Zl Zm ZB ZC ZD ZE=>?_);subst Zm;refine aK ?_;refine ji (s:=g) (F:=λk=>(Value.slice Zk g.length Zl).ownBlock=some k) underlying51 underlying5 underlying9 rfl rfl (λw' d=>?_) ?_;obtain⟨ZF,ZG,Zn,Zo⟩:=Rd.gf (E:=cz) (d.has Has.head) rfl;cases Zn
 exact Zo;refine ay ?_;intro ZH Zp;exact⟨by rw[r],Zp.ext⟩
theorem af.JB {b:World} {S:List Nat} {cs cs':List Chunk} {w:World} (h:af b S cs w) (e:cs=cs'):af b S cs' w:=e▸h
theorem VM (w:World) (s:List UInt8) (b:s.length≤1000000):
 Calls prog 345 [.string (bs s)].toArray w (λe w'=>e= .returned (.string (bs (s.take 256)))∧Ext [] w w'):=by
 refine aV func345 ntmps345 ?_;refine bp ?_;refine pJ (min s.length 256) underlying9 rfl rfl rfl aa aa ?_;refine ay ?_;intro c a;refine⟨?_,a.ext⟩;have e:s.take (min s.length 256)=s.take 256:=by
  rcases Nat.le_total s.length 256 with h | h
  rw[iG h,ev (bW _),ev h];rw[Nat.min_eq_right h]
 rw[e]
theorem tR (w:World) (k:Int) (s:List UInt8) (a:s.length≤1000000):
 Calls prog 265 [.int .i64 k,.string (bs s)].toArray w (λe w'=>e= .returned (.agg (n9 k s).cells.toArray)∧Ext [] w w'):=by
 refine aV func265 ntmps265 ?_;refine ah ?_;intro c d f;refine al ?_;refine ao rfl O0 rfl (λw' _=>VM w' s a) ?_;refine al ?_;intro g b;exact⟨rfl,b.ext⟩
def CA (L:List (List UInt8)) (i:Nat):Value:= .tuple #[.string (bs (L.getD i [])),.bool (decide (i<L.length))]
theorem yK (w:World) (F:Nat→Prop) (A:Option Addr) (n c:Nat) (L:List (List UInt8)) (b:Rd jN w F A n c L) (i:Nat):
 Calls prog 262 [.slice A n c,.int .i64 (i:Int)].toArray w (λe w'=>e= .returned (CA L i)∧Ext [] w w'):=by
 have k:=b.len
 refine aV func262 ntmps262 ?_;refine cF ?_;refine aj (λf=>?_) (λf=>?_);refine aJ ?_;intro g a;exact⟨by rw[CA,cg aa,fI,kq aa];rfl,a.ext⟩;obtain⟨x,d⟩ : ∃x,L[i]? = some x:=⟨L[i]'aa,bE _⟩;obtain⟨bY,l,_,h⟩:=b.at_ d;refine al ?_;refine bC (q:=i) MF rfl rfl rfl bv aa aa ?_;refine a_ no rfl rfl (λw' j=>j.cu (h 0 _ rfl) av) ?_;refine al ?_;intro g a;exact⟨by rw[CA,bX aa,fI,d];rfl,a.ext⟩
def JC (s:List UInt8) (a:World) (v:Value) (b:World):Prop:= ∃A n c,v= .agg #[.slice A n c,.string (bs (jP s)),.bool (decide (59∈s))]∧Rd jN b (λk=>a.heap.size≤k) A n c (fO 59 s)
theorem VN (s:List UInt8): (jP s).length≤s.length:=by
 unfold jP;split
 rw[fJ];have:=(List.dropWhile_sublist (λx:UInt8=>decide (x≠59)) (l:=s)).length_le
 omega
 exact bP _
theorem VO (s:List UInt8): ∃x,iU s 59= .tuple #[.string x,.string (bs (jP s)),.bool (decide (59∈s))]:=by
 unfold iU jP;by_cases h:59∈s
 rw[aw h,aw h,bX h];exact⟨_,rfl⟩
 rw[ag h,ag h,cg h];exact⟨_,rfl⟩
theorem VP (w:World) (e:rI w) (s:List UInt8) (b:s.length≤1000000):
 Calls prog 261 [.string (bs s)].toArray w (nx (JC s w) w):=by
 obtain⟨x,f⟩:=VO s;refine aV func261 ntmps261 ?_;refine ah ?_;intro u y z;refine ay ?_;refine ao (v:= .tuple #[.string x,.string (bs (jP s)),.bool (decide (59∈s))]) rfl Fm rfl (λw' _=>by have h:=Bx w' s 59 b;rw[f] at h;exact h) ?_;refine bx ?_;refine wP rfl UT rfl (λw' g=>UV w' (e.ext g.ext) s 59 b) (λA i j l m a n B o p=>?_);have q:Ext [] w i:=a.ext.dW n
 have r:=a.ek
 refine aK ?_;intro C c;exact⟨_,rfl,q.trans c.ext r,j,l,m,rfl,(p.ext c.ext (λk d t=>by have:=o k t;omega)).dC (λk d=>fp a.ext.size d)⟩
def tS (L:List (List UInt8)):ly:=if 2<L.length then ⟨4,(codeF (L.getD 2 [])).1,(codeF (L.getD 2 [])).2,[]⟩ else ml 4
theorem CB {L:List (List UInt8)} {m:Nat} (h: ∀x∈L,x.length≤m) (i:Nat): (L.getD i []).length≤m:=by
 rw[fI];cases a:L[i]? with
 | none=>exact bP _
 | some x=>exact h x (da a)
theorem VQ (w:World) (F:Nat→Prop) (A:Option Addr) (n c:Nat) (L:List (List UInt8)) (i:Rd jN w F A n c L) (rest:ByteArray) (more:Bool) (j: ∀x∈L,x.length≤1000000):
 Calls prog 340 [.agg #[.slice A n c,.string rest,.bool more]].toArray w (λe w'=>e= .returned (.agg (tS L).cells.toArray)∧Ext [] w w'):=by
 refine aV func340 ntmps340 ?_;refine ah ?_;intro f m o;refine ar ?_;intro g p q;refine al ?_;intro h r s;refine ay ?_;refine cH (H':=af w [] [aD h (ml 4).cells 176,aD g (ml 0).cells 176,aD f [.slice A n c,.string rest,.bool more] 326]) ?_ (Sub.refl _) (λx a=>af.JB a ab);refine ah ?_;refine ao rfl w9 rfl (λw' k=>yK w' F A n c L (i.ext k.ext av) 2) ?_;refine bx ?_;refine aj (λb=>?_) (λb=>?_);refine aq ?_;refine ao rfl Pr rfl (λw' _=>VG w' (L.getD 2 []) (CB j 2)) ?_;refine aQ ?_;refine cH (H':=af w [] [aD h (tS L).cells 176,aD g (ml 0).cells 176,aD f [.slice A n c,.string rest,.bool more] 326]) ?_ (Sub.refl _) (λx a=>af.JB a (by rw[tS,aw b];rfl));refine aC ?_;intro l d;exact⟨rfl,d.ext⟩;refine aQ ?_;intro l d;exact⟨by rw[tS,ag b];rfl,d.ext⟩
theorem VR (w:World) (u:pp w) (F:Nat→Prop) (A:Option Addr) (n c:Nat) (L:List (List UInt8)) (r:Rd jN w F A n c L) (rest:ByteArray) (more m:Bool) (s: ∀x∈L,x.length≤1000000):
 Calls prog 263 [.agg #[.slice A n c,.string rest,.bool more],.bool m].toArray w (λe w'=>e= .returned (.agg (kj m (L.getD 1 []) (L.getD 2 []) (decide (2<L.length))).cells.toArray)∧Ext [] w w'):=by
 have B:=CB s 1
 have y:=CB s 2
 have z:tS L=if decide (2<L.length)=true then ⟨4,(codeF (L.getD 2 [])).1,(codeF (L.getD 2 [])).2,[]⟩ else ml 4:=by
  unfold tS;by_cases h:2<L.length
  rw[aw h,aw (bX h)];rw[ag h,ag (by simpa using h)]
 have C:=Cv _ (L.getD 2 []) (bW _)
 refine aV func263 ntmps263 ?_;refine ah ?_;intro D E G;refine ar ?_;intro H I J;refine al ?_;refine ao rfl w9 rfl (λw' f=>yK w' F A n c L (r.ext f.ext av) 1) ?_;refine bp ?_;refine ao rfl w9 rfl (λw' f=>yK w' F A n c L (r.ext f.ext av) 2) ?_;refine aJ ?_;generalize L.getD 1 []=v at *
 generalize K:L.getD 2 []=b at *
 refine bp ?_;refine aj (λg=>?_) (λg=>?_);refine aQ ?_;intro d a;exact⟨by rw[kj,aw g];rfl,a.ext⟩;refine al ?_;refine aj (λj=>?_) (λj=>?_);refine aQ ?_;intro d a;exact⟨by rw[kj,ag g,aw j];rfl,a.ext⟩;refine al ?_;refine aj (λo=>?_) (λo=>?_);refine aQ ?_;intro d a;exact⟨by rw[kj,ag g,ag j,aw o];rfl,a.ext⟩;refine al ?_;refine aj (λp=>?_) (λp=>?_);refine ah ?_;refine ao rfl OW rfl (λw' f=>VQ w' F A n c L (r.ext f.ext av) rest more s) ?_;refine aC ?_;intro d a;refine⟨?_,a.ext⟩;rw[kj,ag g,ag j,ag o,aw p,←z];rfl
 refine al ?_;refine aj (λq=>?_) (λq=>?_);have k:kj m v b (decide (2<L.length))=if m=true∧decide (2<L.length)=true then n9 5 (ia b) else n8:=by rw[kj,ag g,ag j,ag o,ag p,aw q]
 refine aS ?_;refine aW 40 rfl (λl=>?_) (λl=>?_);refine ay ?_;refine aj (λi=>?_) (λi=>?_);refine ah ?_;refine ao rfl Fo rfl (λw' f=>JA w' (u.ext f.ext) b y) ?_;refine ao rfl sE rfl (λw' _=>tR w' 5 (ia b) aa) ?_;refine aC ?_;intro d a;exact⟨by rw[k,aw ⟨l,bX i⟩];rfl,a.ext⟩;refine bp ?_;intro d a;exact⟨by rw[k,ag (λh=>i (aX h.2))];rfl,a.ext⟩;refine dB ?_;intro d a;exact⟨by rw[k,ag (λh=>by rw[l] at h;cases h.1)];rfl,a.ext⟩;refine al ?_;refine aj (λt=>?_) (λt=>?_);have k:kj m v b (decide (2<L.length))=if m=true∧b.take 4=tP then n9 6 (ia (b.drop 4)) else n8:=by rw[kj,ag g,ag j,ag o,ag p,ag q,aw t]
 refine ah ?_;refine ao rfl E9 rfl (λw' _=>Je w' b tP aa aZ) ?_;refine bp ?_;refine aW 54 rfl (λl=>?_) (λl=>?_);refine ay ?_;refine aj (λi=>?_) (λi=>?_);have M: (b.drop 4).length≤b.length:=by rw[fJ];omega
 have N:=Cv _ (b.drop 4) (bW _)
 rw[show (if b.take tP.length=tP then b.drop tP.length else b)=b.drop 4 from aw i];refine ah ?_;refine ao rfl Fo rfl (λw' f=>JA w' (u.ext f.ext) (b.drop 4) aa) ?_;refine ao rfl sE rfl (λw' _=>tR w' 6 (ia (b.drop 4)) aa) ?_;refine aC ?_;intro d a;exact⟨by rw[k,aw ⟨l,i⟩];rfl,a.ext⟩;refine bp ?_;intro d a;exact⟨by rw[k,ag (λh=>i h.2)];rfl,a.ext⟩;refine dB ?_;intro d a;exact⟨by rw[k,ag (λh=>by rw[l] at h;cases h.1)];rfl,a.ext⟩;refine bp ?_;intro d a;exact⟨by rw[kj,ag g,ag j,ag o,ag p,ag q,ag t];rfl,a.ext⟩
theorem VS (s:List UInt8) (p:List UInt8 × List UInt8) (h:pq s=some p):p.2.length≤s.length:=by
 unfold pq at h
 split at h
 split at h
 cases h
 cases h
 have:=yC _ ((s.drop 7).drop (Lib.indexByte (s.drop 7) 47).toNat) (bW _)
 rw[fJ,fJ] at this
 dsimp only;omega
 cases h
structure vQ (w:World):Prop where
 l:fF w
 e:pp w
 m:rI w
theorem vQ.ext {w w':World} (h:vQ w) (a:Ext [] w w'):vQ w':=⟨h.l.ext a,h.e.ext a,h.m.ext a⟩
set_option maxHeartbeats 1000000 in
theorem JD (w:World) (F:vQ w) (s:List UInt8) (J:s.length≤1000000):
 Calls prog 186 [.string (bs s)].toArray w (λe w'=>e= .returned (.agg (lz s).cells.toArray)∧Ext [] w w'):=by
 have K: ∀x∈fO 59 s,x.length≤1000000:=λx L=>by have:=(Jf 59 s x L).2;omega
 have Y:=VN s
 have b:lz s=if jO s=[49,51,51]∨jO s=[54,51,51] then kj (decide (jO s=[54,51,51])) (Cw s) (Cx s) (jv s) else if jO s=[55] then tQ (jP s) else if jO s=[49,51,51,55] then o8 (jP s) else if (jO s=[48]∨jO s=[50])∧59∈s then n9 8 (jP s) else n8:=rfl
 have l:=λw'=>Vg w' (jP s) aa
 have M:=VS (jP s)
 refine aV func186 ntmps186 ?_;refine ah ?_;intro z Z Za;refine ay ?_;refine mM (R:=λN=>JC s N) rfl Ou rfl (λw' g=>VP w' (F.ext g.ext).m s J) (λO o v G P Zb Q S=>?_);obtain⟨A,n,c,rfl,T⟩:=S;have U:Ext [] w o:=G.ext.dW P
 have V:=G.ek
 have d: ∀w',Ext (aB [aD z [.int .i64 0,.int .i64 0,.bool false,.string ByteArray.empty] 176]) o w'→Ext [] w w':=λw' h=>U.trans h V
 have H: ∀w',Ext (aB [aD z [.int .i64 0,.int .i64 0,.bool false,.string ByteArray.empty] 176]) o w'→Rd jN w' (λk=>O.heap.size≤k) A n c (fO 59 s):=λw' h=>T.ext h (λk Zc W=>by have:=Q k W;omega)
 refine ar ?_;intro Zd Ze Zf;refine aC ?_;refine ao rfl w9 rfl (λw' g=>yK w' _ A n c _ (H w' g.ext) 0) ?_;refine aJ ?_;rw[show (fO 59 s).getD 0 []=jO s from rfl];have I: ∀q w',Ext (aB [aD z [.int .i64 0,.int .i64 0,.bool false,.string ByteArray.empty] 176]) o w'→Calls prog 263 [.agg #[.slice A n c,.string (bs (jP s)),.bool (decide (59∈s))],.bool q].toArray w' (λe X=>e= .returned (.agg (kj q (Cw s) (Cx s) (jv s)).cells.toArray)∧Ext [] w' X):=λq w' h=>VR w' (F.ext (d w' h)).e _ A n c _ (H w' h) _ _ q K
 generalize Zg:jO s=one at *
 generalize Zh:jP s=rest at *
 refine bx ?_;refine aj (λr=>?_) (λr=>?_);refine aq ?_;refine eE rfl ((bX r)) ?_;refine ay ?_;refine ao rfl E7 rfl (λw' g=>I (decide (one=[54,51,51])) w' g.ext) ?_;refine aC ?_;intro f a;exact⟨by rw[b,aw (.inl r)];rfl,d _ a.ext⟩;refine ay ?_;refine aj (λB=>?_) (λB=>?_);refine ay ?_;refine ao rfl E7 rfl (λw' g=>I (decide (one=[54,51,51])) w' g.ext) ?_;refine aC ?_;intro f a;exact⟨by rw[b,aw (.inr B)];rfl,d _ a.ext⟩;rw[ag (λh=>h.elim r B)] at b
 refine al ?_;refine aj (λC=>?_) (λC=>?_);rw[aw C] at b
 cases j:pq rest with
 | some p=>
  have Zi:=M p j
  rw[show pr rest= .tuple #[.string (bs p.1),.string (bs p.2),.int .i64 0] by rw[pr,j]] at l
  refine aS ?_;refine ao rfl E8 rfl (λw' _=>l w') ?_;refine eL ?_;refine ao rfl sE rfl (λw' _=>tR w' 6 p.2 aa) ?_;refine aC ?_;intro f a;exact⟨by rw[b,tQ,j];rfl,d _ a.ext⟩
 | none=>
  rw[show pr rest= .tuple #[.string (bs []),.string (bs []),.int .i64 4] by rw[pr,j]] at l
  refine aS ?_;refine ao rfl E8 rfl (λw' _=>l w') ?_;refine uW ?_;intro f a;exact⟨by rw[b,tQ,j];rfl,d _ a.ext⟩
 rw[ag C] at b
 refine al ?_;refine aj (λD=>?_) (λD=>?_);rw[aw D] at b
 refine aK ?_;refine aj (λt=>?_) (λt=>?_);refine bp ?_;intro f a;exact⟨by rw[b,o8,aw (show rest=yI from t)];rfl,d _ a.ext⟩;refine al ?_;refine ao rfl E9 rfl (λw' _=>Je w' rest rJ aa aZ) ?_;refine bx ?_;refine aj (λu=>?_) (λu=>?_);rw[show (if rest.take rJ.length=rJ then rest.drop rJ.length else rest)=rest.drop 11 from aw u];refine ah ?_;refine ao rfl sE rfl (λw' _=>tR w' 6 (rest.drop 11) (by rw[fJ];omega)) ?_;refine aC ?_;intro f a;exact⟨by rw[b,o8,ag (show ¬rest=yI from t),aw (show rest.take 11=rJ from u)];rfl,d _ a.ext⟩;refine bp ?_;intro f a;exact⟨by rw[b,o8,ag (show ¬rest=yI from t),ag (show ¬rest.take 11=rJ from u)];rfl,d _ a.ext⟩;rw[ag D] at b
 refine aC ?_;refine aj (λy=>?_) (λy=>?_);refine aq ?_;refine eE rfl ((bX y)) ?_;refine al ?_;refine aj (λi=>?_) (λi=>?_);refine aS ?_;refine ao rfl sE rfl (λw' _=>tR w' 8 rest aa) ?_;refine aC ?_;intro f a;exact⟨by rw[b,aw ⟨.inl y,i⟩];rfl,d _ a.ext⟩;refine bp ?_;intro f a;exact⟨by rw[b,ag (λh=>i h.2)];rfl,d _ a.ext⟩;refine ay ?_;refine aj (λE=>?_) (λE=>?_);refine al ?_;refine aj (λi=>?_) (λi=>?_);refine aS ?_;refine ao rfl sE rfl (λw' _=>tR w' 8 rest aa) ?_;refine aC ?_;intro f a;exact⟨by rw[b,aw ⟨.inr E,i⟩];rfl,d _ a.ext⟩;refine bp ?_;intro f a;exact⟨by rw[b,ag (λh=>i h.2)];rfl,d _ a.ext⟩;refine bp ?_;intro f a;exact⟨by rw[b,ag (λh=>h.1.elim y E)];rfl,d _ a.ext⟩
end Go.Proofs.YtlgnfdodnhokjaaGreatDoor.Mq.Os
namespace Go.Proofs.YtlgnfdodnhokjaaGreatDoor.Mq
open Go Go.RowKit Go.Proofs Tryz
section
structure bO where
 W:World
structure tT [Inhabited bO] (w:World):Prop where
 ai: ∀k,k<8→w.heap[k]? = (default:bO).W.heap[k]?
 yL:cN.mV w
 it:du.fF w
 os:Os.vQ w
theorem yM {w w':World} (h: ∀k,0≤k→k<8→w'.heap[k]? = w.heap[k]?) {g o:Nat} (a:g<8):w'.cell? ⟨g,o,none⟩=w.cell? ⟨g,o,none⟩:=World.cell?_of_block (w:=w) (h g (bP _) a)
theorem JE {w w':World} (h: ∀k,0≤k→k<8→w'.heap[k]? = w.heap[k]?) (a:du.fF w):du.fF w':=by
 have b:prog.globalNamed "internal/strconv.uint64pow10" = some 2:=by kernel_rfl
 unfold du.fF Lib.TabIs World.var? at *
 rw[b] at a ⊢
 simp only[Option.bind_some] at a ⊢
 rw[h 2 aZ aZ];exact a
theorem tT.loc [Inhabited bO] (w w':World) (h: ∀k,0≤k→k<8→w'.heap[k]? = w.heap[k]?) (a:tT w):tT w':=by
 refine⟨λk c=>(h k (bP _) c).trans (a.ai k c),λj d=>?_,JE h a.it,JE h a.os.l,?_,?_⟩;rw[yM h aZ];exact a.yL j d
 obtain⟨⟨t,p,b⟩,f,gk,g⟩:=a.os.e;exact⟨⟨t,p,by rw[yM h aZ];exact b⟩,f,gk,by rw[yM h aZ];exact g⟩;obtain⟨m,b⟩:=a.os.m;exact⟨m,by rw[yM h aZ];exact b⟩
def ei [Inhabited bO]:Chunk:=rz 0 8 tT tT.loc
def vR [Inhabited bO] (X:Chunk):Prop:= ∀w,X.pred w→tT w
section
variable {b:World} {S:List Nat} {cs:List Chunk} {w:World}
theorem af.ed (h:af b S cs w) {l:List Chunk} (a:Has cs (aR l)) {c:Chunk} (d:Has l c):c.pred w:=h.Tt a d
theorem af.vS {l cs':List Chunk} {X:Chunk} (h:af b S cs w) (f:aA cs [aR l,X] cs'): ∀w',Ext (aB l) w w'→X.pred w':=λw' g=>by
 have a:=h.perm f.perm
 have c:=a.all X av
 have d:=a.nodup
 refine X.loc w w' (λk e=>g.block k (X.low w c k e) (λi=>?_)) c;have ak:aB (aR l::X::cs')=aB l++(X.ch++aB cs'):=by simp[aB,aR]
 rw[show [aR l,X]++cs'=aR l::X::cs' from rfl,ak] at d
 exact (fW.1 d).2.2 k i k (oq _ e) rfl
end
structure kV (T bu:bL):Prop where
 use:bu.use=T.use
 am:bu.am.g=T.am.g
 bk:bu.bk.g=T.bk.g
section
variable {P:Program} {n:Nat} {ops:Array Oper} {Q:cq} {rest:List Oper} {l:Fr} {d:Nat} {ty:TypeId} {pos:String} {a7:Array Edge}
variable {b:World} {S:List Nat} {args:List Operand} {db:Array TypeId} {f:FuncId} {vs:List Value} {v:Value} {g par k m p:Nat} {R:Int} {T:bL} {X:Chunk}
theorem fH [Inhabited bO] (i:cp g R m T) (ai:p=T.am.g) (ak:Nat.blt d n=true) (j:ad P f) (o:cI l args=some (ptr p::vs))
 (q: ∀w,a8 w (aO T.am)→(∀w',Ext (aB (aO T.am)) w w'→X.pred w')→Calls P f (ptr T.am.g::vs).toArray w (dY k T.am v w))
 (h: ∀bu:bL,cp g R (m+k) bu→p=bu.am.g→kV T bu→az P n ops Q rest ((d,v)::l) (af b S (bz g par X bu))):
 az P n ops Q (⟨some d,.call ⟨.value (.func f),args.toArray,db⟩,ty,pos,a7,none⟩::rest) l (af b S (bz g par X T)):=by
 subst ai;refine kM (l0:=aO T.am) (l':=aO) (cs1:=λz=>[eN g par T,aR (aO z),aR (aO T.bk),T.buf.au,T.aF.au,X]) (λz=>bn.tail bn.head) ak j o (λw e=>q w (e.kL (Has.tail Has.head)) (e.vS ae)) (λz a=>?_);have c:=h { T with am:=z } (i.rB a) a.g.symm ⟨rfl,a.g,rfl⟩
 simp only[bz] at c
 rw[rC a.g] at c
 exact c
theorem VT [Inhabited bO] (i:cp g R m T) (ak:Nat.blt d n=true) (j:ad P f) (o:cI l args=some vs)
 (p: ∀w,a8 w (aO T.am)→(∀w',Ext (aB (aO T.am)) w w'→X.pred w')→Calls P f vs.toArray w (dY k T.am v w))
 (h: ∀bu:bL,cp g R (m+k) bu→kV T bu→az P n ops Q rest ((d,v)::l) (af b S (bz g par X bu))):
 az P n ops Q (⟨some d,.call ⟨.value (.func f),args.toArray,db⟩,ty,pos,a7,none⟩::rest) l (af b S (bz g par X T)):=by
 refine kM (l0:=aO T.am) (l':=aO) (cs1:=λz=>[eN g par T,aR (aO z),aR (aO T.bk),T.buf.au,T.aF.au,X]) (λz=>bn.tail bn.head) ak j o (λw e=>p w (e.kL (Has.tail Has.head)) (e.vS ae)) (λz a=>?_);have c:=h { T with am:=z } (i.rB a) ⟨rfl,a.g,rfl⟩
 simp only[bz] at c
 rw[rC a.g] at c
 exact c
theorem JF [Inhabited bO] {e7:Chunk} (i:cp g R m T) (ak:Nat.blt d n=true) (j:ad P f) (o:cI l args=some vs)
 (p: ∀w,a8 w (aO T.am)→(∀w',Ext (aB (aO T.am)) w w'→X.pred w')→Calls P f vs.toArray w (dY k T.am v w))
 (h: ∀bu:bL,cp g R (m+k) bu→kV T bu→az P n ops Q rest ((d,v)::l) (af b S (e7::bz g par X bu))):
 az P n ops Q (⟨some d,.call ⟨.value (.func f),args.toArray,db⟩,ty,pos,a7,none⟩::rest) l (af b S (e7::bz g par X T)):=by
 refine kM (l0:=aO T.am) (l':=aO) (cs1:=λz=>e7::[eN g par T,aR (aO z),aR (aO T.bk),T.buf.au,T.aF.au,X]) (λz=>bn.tail (bn.tail bn.head)) ak j o (λw e=>p w (e.kL (Has.tail (Has.tail Has.head))) (e.vS ae)) (λz a=>?_);have c:=h { T with am:=z } (i.rB a) ⟨rfl,a.g,rfl⟩
 simp only[bz] at c
 rw[rC a.g] at c
 exact c
theorem vT [Inhabited bO] (i:cp g R m T) (ai:p=T.bk.g) (ak:Nat.blt d n=true) (j:ad P f) (o:cI l args=some (ptr p::vs))
 (q: ∀w,a8 w (aO T.bk)→(∀w',Ext (aB (aO T.bk)) w w'→X.pred w')→Calls P f (ptr T.bk.g::vs).toArray w (dY k T.bk v w))
 (h: ∀bu:bL,cp g R (m+k) bu→p=bu.bk.g→kV T bu→az P n ops Q rest ((d,v)::l) (af b S (bz g par X bu))):
 az P n ops Q (⟨some d,.call ⟨.value (.func f),args.toArray,db⟩,ty,pos,a7,none⟩::rest) l (af b S (bz g par X T)):=by
 subst ai;refine kM (l0:=aO T.bk) (l':=aO) (cs1:=λz=>[eN g par T,aR (aO T.am),aR (aO z),T.buf.au,T.aF.au,X]) (λz=>bn.tail (bn.tail bn.head)) ak j o (λw e=>q w (e.kL (Has.tail (Has.tail Has.head))) (e.vS ae)) (λz a=>?_);have c:=h { T with bk:=z } (i.T7 a) a.g.symm ⟨rfl,rfl,a.g⟩
 simp only[bz] at c
 rw[T8 a.g] at c
 exact c
theorem gj (ak:Nat.blt d n=true) (a:ad P f) (c:cI l args=some vs)
 (e: ∀w,a8 w (bz g par X T)→Calls P f vs.toArray w (hy g par X R m v T w))
 (h: ∀bu:bL,cp g R m bu→az P n ops Q rest ((d,v)::l) (af b S (bz g par X bu))):
 az P n ops Q (⟨some d,.call ⟨.value (.func f),args.toArray,db⟩,ty,pos,a7,none⟩::rest) l (af b S (bz g par X T)):=
 a6 (l0:=bz g par X T) ae ak a c (λw i=>e w (i.bo ae)) h
theorem ep [Inhabited bO] {e7:Chunk} (i:cp g R m T) (ai:p=T.am.g) (ak:Nat.blt d n=true) (j:ad P f) (o:cI l args=some (ptr p::vs))
 (q: ∀w,a8 w (aO T.am)→(∀w',Ext (aB (aO T.am)) w w'→X.pred w')→Calls P f (ptr T.am.g::vs).toArray w (dY k T.am v w))
 (h: ∀bu:bL,cp g R (m+k) bu→p=bu.am.g→kV T bu→az P n ops Q rest ((d,v)::l) (af b S (e7::bz g par X bu))):
 az P n ops Q (⟨some d,.call ⟨.value (.func f),args.toArray,db⟩,ty,pos,a7,none⟩::rest) l (af b S (e7::bz g par X T)):=by
 subst ai;refine kM (l0:=aO T.am) (l':=aO) (cs1:=λz=>e7::[eN g par T,aR (aO z),aR (aO T.bk),T.buf.au,T.aF.au,X]) (λz=>bn.tail (bn.tail bn.head)) ak j o (λw e=>q w (e.kL (Has.tail (Has.tail Has.head))) (e.vS ae)) (λz a=>?_);have c:=h { T with am:=z } (i.rB a) a.g.symm ⟨rfl,a.g,rfl⟩
 simp only[bz] at c
 rw[rC a.g] at c
 exact c
theorem hg {e7:Chunk} (ak:Nat.blt d n=true) (c:ad P f) (j:cI l args=some vs)
 (k: ∀w,a8 w (bz g par X T)→Calls P f vs.toArray w (hy g par X R m v T w))
 (h: ∀bu:bL,cp g R m bu→az P n ops Q rest ((d,v)::l) (af b S (e7::bz g par X bu))):
 az P n ops Q (⟨some d,.call ⟨.value (.func f),args.toArray,db⟩,ty,pos,a7,none⟩::rest) l (af b S (e7::bz g par X T)):=by
 refine gT rfl ak c j λw a=>?_
 have:=k w (a.bo ae)
 simp only[iA,i8];refine this.mono ?_;rintro e w' ⟨i,hi,rfl,o⟩;exact⟨v,rfl,(h i hi).at ((a.pZ ae o).perm (ou (l₁:=bz g par X i) (l₂:=[e7])))⟩
theorem JG {e7 rK:Chunk} (ak:Nat.blt d n=true) (c:ad P f) (j:cI l args=some vs)
 (k: ∀w,a8 w (bz g par X T)→Calls P f vs.toArray w (hy g par X R m v T w))
 (h: ∀bu:bL,cp g R m bu→az P n ops Q rest ((d,v)::l) (af b S (e7::rK::bz g par X bu))):
 az P n ops Q (⟨some d,.call ⟨.value (.func f),args.toArray,db⟩,ty,pos,a7,none⟩::rest) l (af b S (e7::rK::bz g par X T)):=by
 refine gT rfl ak c j λw a=>?_
 have:=k w (a.bo ae)
 simp only[iA,i8];refine this.mono ?_;rintro e w' ⟨i,hi,rfl,o⟩;exact⟨v,rfl,(h i hi).at ((a.pZ ae o).perm (ou (l₁:=bz g par X i) (l₂:=[e7,rK])))⟩
end
theorem n_ (w:World) (g par:Nat) (X:Chunk) (T:bL) (b:a8 w (bz g par X T)) {R:Int} {m:Nat} (a:cp g R m T) (s:List UInt8) (h:m≤900000000000) (i:s.length≤1000):
 Calls prog 179 [ptr g,.string (bs s)].toArray w (hy g par X R (m+1000) (.tuple #[]) T w):=by
 have j:=a.buf
 refine bI func179 ntmps179 b ?_;refine ay ?_;refine a6 (l0:=[eN g par T,T.buf.au]) ae rfl Er rfl (λc d=>Cc c g par T (d.bo ae) a.bM s aa) (λz e=>?_);refine aq ?_;intro k f;exact aN { Cb g T with buf:=z } ⟨a.am,a.bk,a.room,.inr rfl,a.cm,fp a.bf aa,by rw[e,b6];omega,a.aF,a.md⟩ f
theorem rL (w:World) (g par:Nat) (T:bL) (d: (eN g par T).pred w) (c:T.am.an.pred w) (ai:T.am.ap.an.pred w) (f:2≤T.am.ap.cols∧T.am.ap.cols≤1000):Calls prog 224 [ptr g].toArray w (Pure (.int .i64 (min T.am.x (T.am.ap.cols - 1))) w):=by
 refine aV func224 ntmps224 ?_;refine aK ?_;refine ao rfl fh rfl (λa b=>fk a g par T (b.dF d av)) ?_;refine al ?_;refine ao rfl jf rfl (λa b=>ju a T.am (b.dF c av)) ?_;refine kd (t:=35) (off:=0) ab eg rfl rfl rfl ?_;refine Ih (t:=3) (off:=1) ab bN rfl rfl rfl ?_;refine ar ?_;refine ao rfl kw rfl (λa b=>kI a T.am (b.dF c av)) ?_;refine ao rfl Ae rfl (λa b=>AV a T.am.ap (b.dF ai av)) ?_;refine aC ?_;intro h e;exact⟨rfl,e.ext⟩
end
end Go.Proofs.YtlgnfdodnhokjaaGreatDoor.Mq
