/- part 28 of the proof -/
import Derived.Test.YtkeokgcdnfjaaaaGreatDoorQ24
import Derived.Test.YtkeokgcdnfjaaaaGreatDoorQ25
import Derived.Test.YtkeokgcdnfjaaaaGreatDoorQ27
import Derived.Laws.RangeAny
import Derived.Shelf.GgClosure.StringsIndexFuncTop
namespace Go.Proofs.YtkeokgcdnfjaaaaGreatDoor.Mq.Os
open Go Go.RowKit Go.Proofs Tryz
def kJ (r:Nat):Bool:=decide (48≤r) && decide (r≤57)
def Bb:Shelf.Ren:=⟨λ| 15=>364 | 20=>412 | n=>n,λ| 0=>0 | 3=>3 | 4=>4 | 9=>9 | 21=>21 | 23=>385 | n=>n,λn=>n⟩
theorem Bc:LaysGw.n15 prog Bb where
 mixed:=by kernel_rfl
 f15:=func364.trans (aX some ab)
 f20:=func412.trans (aX some ab)
 t0:=underlying0
 a0:=isAgg0
 z0:=sizeOf0
 v0:=zeroValue0
 i0:=by kernel_rfl
 t3:=underlying3
 a3:=isAgg3
 z3:=sizeOf3
 v3:=zeroValue3
 i3:=by kernel_rfl
 t4:=underlying4
 a4:=isAgg4
 z4:=sizeOf4
 v4:=zeroValue4
 i4:=by kernel_rfl
 t9:=underlying9
 a9:=isAgg9
 z9:=sizeOf9
 v9:=zeroValue9
 i9:=by kernel_rfl
 t21:=underlying21
 a21:=isAgg21
 z21:=sizeOf21
 v21:=zeroValue21
 i21:=by kernel_rfl
 t23:=underlying385
 a23:=isAgg385
 z23:=sizeOf385
 v23:=zeroValue385
 i23:=by kernel_rfl
theorem IM (s:List UInt8): ∀(f pos:Nat),s.length≤f+pos→(Lib.idxFuncFrom (λr=> !kJ r) true (bs s) f pos<0↔ ∀(j:Nat) (c:UInt8),pos≤j→s[j]? = some c→kJ c.toNat=true)
 | 0,pos,h=>by
  constructor
  intro _ j c e a;have:=(cU.1 a).1
  omega
  intro _;simp[Lib.idxFuncFrom]
 | f+1,pos,h=>by
  unfold Lib.idxFuncFrom;rw[hz];by_cases ai:pos<s.length
  rw[ax ai];have g:pos<(bs s).size:=by rw[hz];exact ai
  have i: (bs s)[pos]'g=s[pos]:=by simp[bs,ByteArray.getElem_eq_getElem_data]
  by_cases l: (s[pos]).toNat<128
  have ak:=decode_ascii (bs s) pos g (by rw[i];exact l)
  rw[i] at ak
  rw[ak];dsimp only;by_cases d:kJ (s[pos]).toNat=true
  rw[ag (by simp[d]),IM s f (pos+1) aa];constructor
  intro b j c e a;by_cases m:j=pos
  subst m;rw[bE ai] at a
  simp only[dz] at a
  rw[←a];exact d
  exact b j c aa a;intro b j c e a;exact b j c aa a;rw[ax (by simp[d])];constructor
  intro n;omega
  intro b;exact absurd (b pos s[pos] (cd _) (bE ai)) d;have ak:=decode_high (bs s) pos g (by rw[i];omega)
  have k: ∀r,128≤r→kJ r=false:=λr o=>by simp[kJ];omega
  rw[ax (by simp[k _ ak.1])];constructor
  intro n;omega
  intro b;have:=b pos s[pos] (cd _) (bE ai)
  rw[k _ aa] at this
  cases this
  rw[ag ai];constructor
  intro _ j c e a;have:=(cU.1 a).1
  omega
  intro _;omega
theorem UA:ad prog 431:=ad.of func431 ab ab
theorem UB (w:World) (r:Nat):
 Calls prog 431 [.int .i32 (r:Int)].toArray w (λe w'=>e= .returned (.bool (!kJ r))∧w'=w):=by
 refine calls (n:=9) func431 rfl ntmps431 rfl ?_;refine aR ?_;refine aV 5 rfl (λa=>?_) (λa=>?_);have c:=aY a
 refine aK ?_;intro d b;refine⟨?_,b⟩;rw[show kJ r=false by unfold kJ;rw[cm aa];rfl];rfl
 have c:=a8 a
 refine aR ?_;intro d b;refine⟨?_,b⟩;congr 2
 unfold kJ;rw[b1 (show 48≤r by omega),Bool.true_and];by_cases h:r≤57
 rw[b1 h,cm aa];rfl
 rw[cm h,b1 aa];rfl
theorem UC (w:World) (s:List UInt8):
 Calls prog 364 [.string (bs s),.func (.func 431) #[] #[]].toArray w (λe w'=> ∃n:Int,e= .returned (.int .i64 n)∧decide (0≤n)= !s.all o7∧Ext [] w w'):=by
 refine Calls.mono (Any.strings_IndexFunc Bc 431 #[] (λargs w=>y8 UA args w) (λr=> !kJ r) (bs s) w (λW x _=>?_)) (λe f h=>⟨_,h.1,?_,Ext.r0 h.2⟩);refine Calls.mono (UB W x) (λe f h=>⟨h.1,0,?_⟩);rw[h.2];rfl
 have:=IM s s.length 0 aa
 rw[Lib.idxFunc,hz];have b: (s.all o7=true)↔Lib.idxFuncFrom (λr=> !kJ r) true (bs s) s.length 0<0:=by
  rw[this,iQ];constructor
  intro h j c _ a;have:=aY (h c (c8 a))
  unfold kJ;rw[b1 this.1,b1 this.2];rfl
  intro h c a;obtain⟨j,g⟩:=qv a;have:=h j c (bN _) g
  unfold kJ at this
  rw[dY,e3,e3] at this
  exact b1 this
 cases d:s.all o7 with
 | true=>
  have:=b.1 d
  rw[cm aa];rfl
 | false=>
  have: ¬Lib.idxFuncFrom (λr=> !kJ r) true (bs s) s.length 0<0:=λh=>by
   have:=b.2 h
   rw[d] at this;cases this
  rw[b1 aa];rfl
theorem UD:ad prog 449:=ad.of func449 ab ab
theorem UE (w:World) (s p:List UInt8) (b:s.length≤9223372036854775807) (ai:p.length≤9223372036854775807):Calls prog 449 [.string (bs s),.string (bs p)].toArray w (λe w'=>e= .returned (.string (bs (if s.take p.length=p then s.drop p.length else s)))∧Ext [] w w'):=by
 refine aW func449 ntmps449 ?_;refine aR ?_;refine ao rfl Ir rfl (λw' _=>Is w' s p b ai) ?_;refine ar ?_;refine aj (λh=>?_) (λh=>?_);have d:p.length≤s.length:=by have:=aX List.length h;simp at this;omega
 refine ay ?_;refine pu p.length underlying9 rfl rfl rfl a7 aa ?_;refine al ?_;intro c a;exact⟨by rw[ax h],a.ext⟩;refine aR ?_;intro c a;exact⟨by rw[ag h],a.ext⟩
theorem UF (w:World) (s p:List UInt8) (a:s.length≤9223372036854775807) (ai:p.length≤9223372036854775807):Calls prog 430 [.string (bs s),.string (bs p)].toArray w (λe w'=>e= .returned (.string (bs (if s.take p.length=p then s.drop p.length else s)))∧Ext [] w w'):=by
 refine aW func430 ntmps430 ?_;refine aJ ?_;refine ao rfl UD rfl (λw' _=>UE w' s p a ai) ?_;refine ay ?_;intro c b;exact⟨rfl,b.ext⟩
theorem UG (s:List UInt8): (if s.take [(45 :UInt8)].length=[45] then s.drop [(45 :UInt8)].length else s)=gy s:=by
 unfold gy;cases s with
 | nil=>rfl
 | cons c l=>
  show (if [c]=[45] then l else c::l)=if some c=some 45 then l else c::l
  by_cases h:c=45
  rw[ax (by rw[h]),ax (by rw[h])];rw[ag (λe=>h (List.cons.inj e).1),ag (λe=>h (od e))]
theorem UH (s:List UInt8): (gy s).length≤s.length:=by
 unfold gy;split
 rw[fz];omega
 exact cd _
def UI (p:Int × Bool):Value:= .tuple #[.int .i64 p.1,.bool p.2]
theorem Cb {s:List UInt8} (h: ¬(1≤(gy s).length∧(gy s).length≤9∧(gy s).all o7=true)):codeF s=(0,false):=by
 unfold codeF;rw[ag];intro a;unfold codeOk at a
 rw[dY,dY,e3,e3] at a
 exact h ⟨a.1.1,a.1.2,a.2⟩
theorem UJ (w:World) (s:List UInt8) (l:s.length≤1000000):
 Calls prog 399 [.string (bs s)].toArray w (λe w'=>e= .returned (UI (codeF s))∧Ext [] w w'):=by
 have x:=UH s
 refine aW func399 ntmps399 ?_;refine aJ ?_;refine ao (v:= .string (bs (gy s))) rfl OP rfl (λw' _=>by have h:=UF w' s [45] aa a1;rw[UG] at h;exact h) ?_;refine aJ ?_;refine aV 11 rfl (λc=>?_) (λc=>?_);have f:=aY c
 refine gN ?_;intro g a;exact⟨by rw[Cb (by rw[f];simp)];rfl,a.ext⟩;have f:=a8 c
 refine aK ?_;refine aV 16 rfl (λd=>?_) (λd=>?_);have m:=aY d
 refine dB ?_;intro g a;exact⟨by rw[Cb aa];rfl,a.ext⟩;have m:=a8 d
 refine ah ?_;refine mx (R:=λ_ v _=> ∃n:Int,v= .int .i64 n∧decide (0≤n)= !(gy s).all o7) rfl E0 rfl (λw' _=>(UC w' (gy s)).mono (λe y h=>by obtain⟨n,c,d,i⟩:=h;exact⟨_,c,i,n,rfl,d⟩)) (λz o v p q A B r=>?_);obtain⟨n,rfl,b⟩:=r;have j:Ext [] w o:=p.ext.dU q
 refine ay ?_;refine aj (λi=>?_) (λi=>?_);refine aJ ?_;intro g a;rw[b1 (show 0≤n by omega)] at b
 exact⟨by rw[Cb (λh=>by rw[h.2.2] at b;cases b)];rfl,j.dU a.ext⟩;rw[cm (show ¬0≤n by omega)] at b
 have k:codeOk s=true:=by
  unfold codeOk;have t:1≤(gy s).length:=tX.2 f
  rw[b1 t,b1 (show (gy s).length≤9 by omega)];cases u: (gy s).all o7 with
  | true=>rfl
  | false=>rw[u] at b;cases b
 refine ay ?_;refine ao (v:= .tuple #[.int .i64 (codeF s).1,.nilIface]) rfl T4 rfl (λw' _=>T5 w' s _ l (Uz k)) ?_;refine dB ?_;intro g a;exact⟨by rw[show codeF s=((codeF s).1,true) by unfold codeF;rw[ax k]];rfl,j.dU a.ext⟩
def IN (a b:UInt8):Value→Prop:=λv=> ∃n:Nat,v= .tuple #[.int .u8 (n:Int),.bool (decide (0≤cM a) && decide (0≤cM b))]∧(0≤cM a→0≤cM b→(n:Int)=(nP a b).toNat)
theorem UK:cM 43= -1:=by decide
theorem IO:cM 95= -1:=by decide
theorem UL (w:World) (n:o8 w) (a b:UInt8):Calls prog 401 [.string (bs [a,b])].toArray w (ng (λv _=>IN a b v) w):=by
 have E:=UInt8.toNat_lt a
 have F:=UInt8.toNat_lt b
 refine aW func401 ntmps401 ?_;refine aJ ?_;refine mx (R:=λ_ v _=>II a b v) rfl OQ rfl (λw' o=>Uw w' (n.ext o.ext) a b) (λG s v u A H I B=>?_);have l:Ext [] w s:=u.ext.dU A
 rcases B with ⟨y,z,J,K,g,i,rfl⟩ | ⟨m,x,t,p,rfl⟩
 refine aK ?_;have j: (a.toNat:Int)≠43:=λe=>by
  have:a=43:=UInt8.toNat_inj.1 (by have: (43 :UInt8).toNat=43:=rfl;omega)
  rw[this,UK] at g;omega
 have k: (a.toNat:Int)≠95:=λe=>by
  have:a=95:=UInt8.toNat_inj.1 (by have: (95 :UInt8).toNat=95:=rfl;omega)
  rw[this,IO] at g;omega
 have C: (b.toNat:Int)≠95:=λe=>by
  have:b=95:=UInt8.toNat_inj.1 (by have: (95 :UInt8).toNat=95:=rfl;omega)
  rw[this,IO] at i;omega
 refine ew [0,1,2,3,4,5,6,7,8,9,10,11,12,13,14,15,16,17,18,19,20] 0 [[]] (λ_=>True) mixed ab (λ_ f=>f.drew) (λ_ h=>dj) ?_;refine aq ?_;refine aL rfl (λc d=>(dl (r:=((16*y+z:Nat):Int)) rfl rfl underlying34 underlying5 (by rw[IntKind.wrap_u8];omega) aG)) ?_;refine aq ?_;refine aL rfl (λc d=>(T6 ab rfl rfl aG)) ?_;refine ar ?_;refine aL rfl (λc d=>cA rfl rfl (rfl) (hZ (q:=0) underlying9 rfl rfl rfl a7 (rfl: [a,b][0]? = some a) aG)) ?_;refine ah ?_;refine aL rfl (λc d=>cA rfl rfl ((b1 j)) (hW rfl rfl aG)) ?_;refine aL rfl (λc d=>cA rfl rfl ((b1 j)) (hZ (q:=0) underlying9 rfl rfl rfl a7 (rfl: [a,b][0]? = some a) aG)) ?_;refine aL rfl (λc d=>cA rfl rfl ((b1 j)) (we rfl rfl rfl aG)) ?_;refine ar ?_;refine aL rfl (λc d=>cA rfl rfl ((b1 k)) (hW rfl rfl aG)) ?_;refine aL rfl (λc d=>cA rfl rfl ((b1 k)) (hZ (q:=1) underlying9 rfl rfl rfl a7 (rfl: [a,b][1]? = some b) aG)) ?_;refine aL rfl (λc d=>cA rfl rfl ((b1 k)) (we rfl rfl rfl aG)) ?_;refine aK ?_;intro D f;refine⟨_,rfl,l.dU f.ext,16*y+z,?_,λ_ _=>?_⟩;rw[b1 C,g,i,b1 (show (0 :Int)≤(y:Int) by omega),b1 (show (0 :Int)≤(z:Int) by omega)];rfl
 unfold nP;rw[g,i,qG];omega
 refine aK ?_;refine ew [0,1,2,3,4,5,6,7,8,9,10,11,12,13,14,15,16,17,18,19,20] 0 [[]] (λ_=>True) mixed ab (λ_ f=>f.drew) (λ_ h=>dj) ?_;refine aq ?_;refine aL rfl (λc d=>(dl (r:=((x%256 :Nat):Int)) rfl rfl underlying34 underlying5 (by rw[IntKind.wrap_u8];omega) aG)) ?_;refine aq ?_;refine aL rfl (λc d=>(T7 ab rfl rfl aG)) ?_;refine kq ?_;intro D f;refine⟨_,rfl,l.dU f.ext,x%256,?_,λL M=>?_⟩;have: (decide (0≤cM a) && decide (0≤cM b))=false:=by
  rcases m with h | h
  rw[h];rfl
  rw[h,Bool.and_comm];rfl
 rw[this];rcases m with h | h <;> omega
theorem yl {s:List UInt8} {a b:UInt8}:tt s [a,b]=true↔s.take 2=[a,b]:=by
 unfold tt;rw[dY,e3,e3];constructor
 exact λh=>h.2
 intro h;refine⟨?_,h⟩;have:=aX List.length h
 rw[dn] at this
 simp at this
 show 2≤s.length
 omega
theorem UM {s:List UInt8} (h:s.take 2=[92,92]):iM s=(2,92):=by unfold iM;rw[ax h]
theorem UN {s:List UInt8} (h:s.take 2=[92,120]) (a:4≤s.length) (b:0≤cM (s.getD 2 0)) (c:0≤cM (s.getD 3 0)):iM s=(4,nP (s.getD 2 0) (s.getD 3 0)):=by
 unfold iM;rw[ag (by rw[h];decide),ax ⟨h,a,b,c⟩]
theorem Cc {s:List UInt8} (a: ¬s.take 2=[92,92]) (b: ¬(s.take 2=[92,120]∧4≤s.length∧0≤cM (s.getD 2 0)∧0≤cM (s.getD 3 0))):iM s=(1,s.headD 0):=by
 unfold iM;rw[ag a,ag b]
theorem UO {s:List UInt8} {i:Nat} (h:i<s.length):hQ (s.drop i)=(iM (s.drop i)).2::hQ (s.drop (i+(iM (s.drop i)).1)):=by
 rw[IL (by intro e;have:=aX List.length e;rw[fz] at this;simp at this;omega),mj]
theorem IP (w:World) (U:o8 w) (s:List UInt8) (Zq:s.length≤1000000):
 Calls prog 337 [.string (bs s)].toArray w (λe w'=>e= .returned (.string (bs (hQ s)))∧Ext [] w w'):=by
 refine aW func337 ntmps337 ?_;refine al ?_;refine jM 5 1 ?_;refine bo ?_;refine b3 (ι:=Nat × Value × List UInt8) (λt=>[(0,.string (bs s)),(3,t.2.1),(4,.int .i64 (t.1 :Int))]) (λt=>af w [] [own 5 1 t.2.1 t.2.2.length (cy.all t.2.2)]) (λt=>t.1≤s.length∧t.2.2.length≤t.1∧hQ s=t.2.2++hQ (s.drop t.1)) (λt=>s.length - t.1) ?_ ?_;exact λw' d=>⟨(0,_,[]),⟨bN _,cd _,rfl⟩,(dZ rfl rfl rfl),d⟩
 rintro⟨i,v,g⟩ ⟨hi,V,r⟩;dsimp only at hi V r ⊢
 refine aJ ?_;refine aj (λW=>?_) (λW=>?_);have o:=UO (s:=s) (i:=i) aa
 have L: (s.drop i).length=s.length - i:=fz
 obtain⟨c,z⟩ : ∃c,s[i]? = some c:=⟨s[i]'aa,bE _⟩;have D: (s.drop i).headD 0=c:=by
  rw[List.headD_eq_head?_getD,List.head?_drop,z];rfl
 have Zr: ∀k,(s.drop i).getD k 0=s.getD (i+k) 0:=λk=>by rw[fy,mm,fy]
 have G: ∀(X:Value) (Zs:World) (M:iM (s.drop i)=(1,c)),hQ s=(g++[c])++hQ (s.drop (i+1)):=λ_ _ M=>by rw[r,o,M];simp
 refine aK ?_;refine pu i underlying9 rfl rfl rfl a7 aa ?_;refine aC ?_;refine ja rfl E5 rfl (λw' _=>IC w' (s.drop i) [92,92]) ?_;refine ar ?_;refine b2 rfl (λA=>?_) (λA=>?_);have j:=yl.1 A
 have f:=UM j
 have N:=Ux (s:=s.drop i) (by intro e;rw[e] at j;cases j)
 rw[f] at o N
 dsimp only at o N
 have Y:s[i+1]? = some 92:=by
  have:=aX (λl=>l[1]?) j
  rw[is,ax a1,mm] at this
  exact this
 refine aR ?_;refine hZ (q:=i+1) underlying9 rfl rfl rfl aa Y ?_;refine aq ?_;intro H I J;refine gm fi rfl rfl rfl bi (λ_=>by exact cz) rfl (ic rfl) (by simp only[maxLen];omega) aa (λp K=>?_);refine aJ ?_;refine bg (i+2,p,g++[92]) ⟨by dsimp only;omega,by dsimp only;simp;omega,by rw[r,o];simp⟩ bm (dZ rfl rfl rfl) (λw' d=>?_);dsimp only;rw[bA.hc cy,b0];exact d;have j: ¬(s.drop i).take 2=[92,92]:=λe=>by rw[yl.2 e] at A;cases A
 refine ah ?_;refine ja rfl E5 rfl (λw' _=>IC w' (s.drop i) [92,120]) ?_;refine aq ?_;refine aV 23 rfl (λB=>?_) (λB=>?_);have Z:=yl.1 B
 refine aJ ?_;refine aj (λC=>?_) (λC=>?_);obtain⟨x,y,a,b,t,ak⟩ : ∃x y a b t,s.drop i=x::y::a::b::t:=by
  match Za:s.drop i with
  | x::y::a::b::t=>exact⟨x,y,a,b,t,rfl⟩
  | [] | [_] | [_,_] | [_,_,_]=>rw[Za] at L C;simp at L C
 have Zb: ((s.drop i).take 4).drop 2=[a,b]:=by rw[ak];rfl
 have Zc: (s.drop i).getD 2 0=a:=by rw[ak];rfl
 have Zd: (s.drop i).getD 3 0=b:=by rw[ak];rfl
 have O:=UN Z aa
 have P:=Cc (s:=s.drop i) j
 rw[Zc,Zd] at O P
 refine ah ?_;refine Lu 2 4 underlying9 rfl rfl rfl rfl a7 a7 aa aa ?_;rw[Zb];refine mx (R:=λ_ v _=>IN a b v) rfl OE rfl (λw' d=>UL w' (U.ext d.ext) a b) (λZt Zu X Q Ze Zv Zw Zf=>?_);obtain⟨n,rfl,Zg⟩:=Zf;have S:=Q.ext.dU Ze
 have T:=Q.ee
 refine bw ?_;refine b2 rfl (λm=>?_) (λm=>?_);rw[dY,e3,e3] at m
 have Zh:=Zg m.1 m.2
 have f:=O m.1 m.2
 rw[f] at o
 dsimp only at o
 refine ay ?_;intro Zx Zy Zz;refine gm fi rfl rfl rfl bi (λ_=>by exact cz) rfl (ic rfl) (by simp only[maxLen];omega) aa (λZi ZA=>?_);refine eG ?_;refine bg (i+4,Zi,g++[nP a b]) ⟨by dsimp only;omega,by dsimp only;simp;omega,by rw[r,o];simp⟩ bm (dZ rfl rfl rfl) (λw' d=>?_);dsimp only;rw[bA.hc cy,b0];rw[Zh] at d
 exact d.y2 S T;have f:=P (λh=>by rw[b1 h.2.2.1,b1 h.2.2.2] at m;cases m)
 rw[D] at f
 have u:=G v w f
 refine al ?_;refine hZ (q:=i) underlying9 rfl rfl rfl aa z ?_;refine aq ?_;intro H I J;refine gm fi rfl rfl rfl bi (λ_=>by exact cz) rfl (ic rfl) (by simp only[maxLen];omega) aa (λp K=>?_);refine aJ ?_;refine bg (i+1,p,g++[c]) ⟨by dsimp only;omega,by dsimp only;simp;omega,u⟩ bm (dZ rfl rfl rfl) (λw' d=>?_);dsimp only;rw[bA.hc cy,b0];exact d.y2 S T;have f:=Cc (s:=s.drop i) j (λh=>C (by have:=h.2.1;omega))
 rw[D] at f
 have u:=G v w f
 refine al ?_;refine hZ (q:=i) underlying9 rfl rfl rfl aa z ?_;refine aq ?_;intro H I J;refine gm fi rfl rfl rfl bi (λ_=>by exact cz) rfl (ic rfl) (by simp only[maxLen];omega) aa (λp K=>?_);refine aJ ?_;refine bg (i+1,p,g++[c]) ⟨by dsimp only;omega,by dsimp only;simp;omega,u⟩ bm (dZ rfl rfl rfl) (λw' d=>?_);dsimp only;rw[bA.hc cy,b0];exact d;have f:=Cc (s:=s.drop i) j (λh=>by rw[yl.2 h.1] at B;cases B)
 rw[D] at f
 have u:=G v w f
 refine bH ?_;refine hZ (q:=i) underlying9 rfl rfl rfl aa z ?_;refine aq ?_;intro H I J;refine gm fi rfl rfl rfl bi (λ_=>by exact cz) rfl (ic rfl) (by simp only[maxLen];omega) aa (λp K=>?_);refine aJ ?_;refine bg (i+1,p,g++[c]) ⟨by dsimp only;omega,by dsimp only;simp;omega,u⟩ bm (dZ rfl rfl rfl) (λw' d=>?_);dsimp only;rw[bA.hc cy,b0];exact d;have Zj:i=s.length:=by omega
 rw[Zj,List.drop_length,IK,fJ] at r
 refine hv (v:=v) Has.head (λZk Zl Zm ZB ZC ZD ZE=>?_);subst Zm;refine aK ?_;refine i_ (s:=g) (F:=λk=>(Value.slice Zk g.length Zl).ownBlock=some k) underlying62 underlying5 underlying9 rfl rfl (λw' d=>?_) ?_;obtain⟨ZF,ZG,Zn,Zo⟩:=Rd.fX (E:=cy) (d.has Has.head) rfl;cases Zn
 exact Zo;refine ay ?_;intro ZH Zp;exact⟨by rw[r],Zp.ext⟩
theorem af.IQ {b:World} {S:List Nat} {cs cs':List Chunk} {w:World} (h:af b S cs w) (e:cs=cs'):af b S cs' w:=e▸h
theorem UP (w:World) (s:List UInt8) (b:s.length≤1000000):
 Calls prog 341 [.string (bs s)].toArray w (λe w'=>e= .returned (.string (bs (s.take 256)))∧Ext [] w w'):=by
 refine aW func341 ntmps341 ?_;refine bo ?_;refine pv (min s.length 256) underlying9 rfl rfl rfl aa aa ?_;refine ay ?_;intro c a;refine⟨?_,a.ext⟩;have e:s.take (min s.length 256)=s.take 256:=by
  rcases Nat.le_total s.length 256 with h | h
  rw[iv h,eu (cd _),eu h];rw[Nat.min_eq_right h]
 rw[e]
theorem tw (w:World) (k:Int) (s:List UInt8) (a:s.length≤1000000):
 Calls prog 260 [.int .i64 k,.string (bs s)].toArray w (λe w'=>e= .returned (.agg (nR k s).cells.toArray)∧Ext [] w w'):=by
 refine aW func260 ntmps260 ?_;refine ah ?_;intro c d f;refine al ?_;refine ao rfl N9 rfl (λw' _=>UP w' s a) ?_;refine al ?_;intro g b;exact⟨rfl,b.ext⟩
def Cd (L:List (List UInt8)) (i:Nat):Value:= .tuple #[.string (bs (L.getD i [])),.bool (decide (i<L.length))]
theorem ym (w:World) (F:Nat→Prop) (A:Option Addr) (n c:Nat) (L:List (List UInt8)) (b:Rd jD w F A n c L) (i:Nat):
 Calls prog 257 [.slice A n c,.int .i64 (i:Int)].toArray w (λe w'=>e= .returned (Cd L i)∧Ext [] w w'):=by
 have k:=b.len
 refine aW func257 ntmps257 ?_;refine cE ?_;refine aj (λf=>?_) (λf=>?_);refine aJ ?_;intro g a;exact⟨by rw[Cd,cm aa,fy,kg aa];rfl,a.ext⟩;obtain⟨x,d⟩ : ∃x,L[i]? = some x:=⟨L[i]'aa,bE _⟩;obtain⟨bX,l,_,h⟩:=b.at_ d;refine al ?_;refine bD (q:=i) LS rfl rfl rfl bz aa aa ?_;refine ba m8 rfl rfl (λw' j=>j.ct (h 0 _ rfl) av) ?_;refine al ?_;intro g a;exact⟨by rw[Cd,b1 aa,fy,d];rfl,a.ext⟩
def IR (s:List UInt8) (a:World) (v:Value) (b:World):Prop:= ∃A n c,v= .agg #[.slice A n c,.string (bs (jF s)),.bool (decide (59∈s))]∧Rd jD b (λk=>a.heap.size≤k) A n c (fE 59 s)
theorem UQ (s:List UInt8): (jF s).length≤s.length:=by
 unfold jF;split
 rw[fz];have:=(List.dropWhile_sublist (λx:UInt8=>decide (x≠59)) (l:=s)).length_le
 omega
 exact bN _
theorem UR (s:List UInt8): ∃x,iJ s 59= .tuple #[.string x,.string (bs (jF s)),.bool (decide (59∈s))]:=by
 unfold iJ jF;by_cases h:59∈s
 rw[ax h,ax h,b1 h];exact⟨_,rfl⟩
 rw[ag h,ag h,cm h];exact⟨_,rfl⟩
theorem US (w:World) (e:rp w) (s:List UInt8) (b:s.length≤1000000):
 Calls prog 256 [.string (bs s)].toArray w (ng (IR s w) w):=by
 obtain⟨x,f⟩:=UR s;refine aW func256 ntmps256 ?_;refine ah ?_;intro u y z;refine ay ?_;refine ao (v:= .tuple #[.string x,.string (bs (jF s)),.bool (decide (59∈s))]) rfl EV rfl (λw' _=>by have h:=Ba w' s 59 b;rw[f] at h;exact h) ?_;refine bw ?_;refine wo rfl TW rfl (λw' g=>TY w' (e.ext g.ext) s 59 b) (λA i j l m a n B o p=>?_);have q:Ext [] w i:=a.ext.dU n
 have r:=a.ee
 refine aK ?_;intro C c;exact⟨_,rfl,q.trans c.ext r,j,l,m,rfl,(p.ext c.ext (λk d t=>by have:=o k t;omega)).dC (λk d=>fp a.ext.size d)⟩
def tx (L:List (List UInt8)):lp:=if 2<L.length then ⟨4,(codeF (L.getD 2 [])).1,(codeF (L.getD 2 [])).2,[]⟩ else l7 4
theorem Ce {L:List (List UInt8)} {m:Nat} (h: ∀x∈L,x.length≤m) (i:Nat): (L.getD i []).length≤m:=by
 rw[fy];cases a:L[i]? with
 | none=>exact bN _
 | some x=>exact h x (c8 a)
theorem UT (w:World) (F:Nat→Prop) (A:Option Addr) (n c:Nat) (L:List (List UInt8)) (i:Rd jD w F A n c L) (rest:ByteArray) (more:Bool) (j: ∀x∈L,x.length≤1000000):
 Calls prog 336 [.agg #[.slice A n c,.string rest,.bool more]].toArray w (λe w'=>e= .returned (.agg (tx L).cells.toArray)∧Ext [] w w'):=by
 refine aW func336 ntmps336 ?_;refine ah ?_;intro f m o;refine aq ?_;intro g p q;refine al ?_;intro h r s;refine ay ?_;refine cG (H':=af w [] [aD h (l7 4).cells 175,aD g (l7 0).cells 175,aD f [.slice A n c,.string rest,.bool more] 324]) ?_ (Sub.refl _) (λx a=>af.IQ a ab);refine ah ?_;refine ao rfl wO rfl (λw' k=>ym w' F A n c L (i.ext k.ext av) 2) ?_;refine bw ?_;refine aj (λb=>?_) (λb=>?_);refine ar ?_;refine ao rfl OD rfl (λw' _=>UJ w' (L.getD 2 []) (Ce j 2)) ?_;refine aR ?_;refine cG (H':=af w [] [aD h (tx L).cells 175,aD g (l7 0).cells 175,aD f [.slice A n c,.string rest,.bool more] 324]) ?_ (Sub.refl _) (λx a=>af.IQ a (by rw[tx,ax b];rfl));refine aC ?_;intro l d;exact⟨rfl,d.ext⟩;refine aR ?_;intro l d;exact⟨by rw[tx,ag b];rfl,d.ext⟩
theorem UU (w:World) (u:o8 w) (F:Nat→Prop) (A:Option Addr) (n c:Nat) (L:List (List UInt8)) (r:Rd jD w F A n c L) (rest:ByteArray) (more m:Bool) (s: ∀x∈L,x.length≤1000000):
 Calls prog 258 [.agg #[.slice A n c,.string rest,.bool more],.bool m].toArray w (λe w'=>e= .returned (.agg (j9 m (L.getD 1 []) (L.getD 2 []) (decide (2<L.length))).cells.toArray)∧Ext [] w w'):=by
 have B:=Ce s 1
 have y:=Ce s 2
 have z:tx L=if decide (2<L.length)=true then ⟨4,(codeF (L.getD 2 [])).1,(codeF (L.getD 2 [])).2,[]⟩ else l7 4:=by
  unfold tx;by_cases h:2<L.length
  rw[ax h,ax (b1 h)];rw[ag h,ag (by simpa using h)]
 have C:=B9 _ (L.getD 2 []) (cd _)
 refine aW func258 ntmps258 ?_;refine ah ?_;intro D E G;refine aq ?_;intro H I J;refine al ?_;refine ao rfl wO rfl (λw' f=>ym w' F A n c L (r.ext f.ext av) 1) ?_;refine bo ?_;refine ao rfl wO rfl (λw' f=>ym w' F A n c L (r.ext f.ext av) 2) ?_;refine aJ ?_;generalize L.getD 1 []=v at *
 generalize K:L.getD 2 []=b at *
 refine bo ?_;refine aj (λg=>?_) (λg=>?_);refine aR ?_;intro d a;exact⟨by rw[j9,ax g];rfl,a.ext⟩;refine al ?_;refine aj (λj=>?_) (λj=>?_);refine aR ?_;intro d a;exact⟨by rw[j9,ag g,ax j];rfl,a.ext⟩;refine al ?_;refine aj (λo=>?_) (λo=>?_);refine aR ?_;intro d a;exact⟨by rw[j9,ag g,ag j,ax o];rfl,a.ext⟩;refine al ?_;refine aj (λp=>?_) (λp=>?_);refine ah ?_;refine ao rfl N5 rfl (λw' f=>UT w' F A n c L (r.ext f.ext av) rest more s) ?_;refine aC ?_;intro d a;refine⟨?_,a.ext⟩;rw[j9,ag g,ag j,ag o,ax p,←z];rfl
 refine al ?_;refine aj (λq=>?_) (λq=>?_);have k:j9 m v b (decide (2<L.length))=if m=true∧decide (2<L.length)=true then nR 5 (hQ b) else nQ:=by rw[j9,ag g,ag j,ag o,ag p,ax q]
 refine aS ?_;refine aV 40 rfl (λl=>?_) (λl=>?_);refine ay ?_;refine aj (λi=>?_) (λi=>?_);refine ah ?_;refine ao rfl EW rfl (λw' f=>IP w' (u.ext f.ext) b y) ?_;refine ao rfl sg rfl (λw' _=>tw w' 5 (hQ b) aa) ?_;refine aC ?_;intro d a;exact⟨by rw[k,ax ⟨l,b1 i⟩];rfl,a.ext⟩;refine bo ?_;intro d a;exact⟨by rw[k,ag (λh=>i (aY h.2))];rfl,a.ext⟩;refine dB ?_;intro d a;exact⟨by rw[k,ag (λh=>by rw[l] at h;cases h.1)];rfl,a.ext⟩;refine al ?_;refine aj (λt=>?_) (λt=>?_);have k:j9 m v b (decide (2<L.length))=if m=true∧b.take 4=tu then nR 6 (hQ (b.drop 4)) else nQ:=by rw[j9,ag g,ag j,ag o,ag p,ag q,ax t]
 refine ah ?_;refine ao rfl EH rfl (λw' _=>It w' b tu aa a1) ?_;refine bo ?_;refine aV 54 rfl (λl=>?_) (λl=>?_);refine ay ?_;refine aj (λi=>?_) (λi=>?_);have M: (b.drop 4).length≤b.length:=by rw[fz];omega
 have N:=B9 _ (b.drop 4) (cd _)
 rw[show (if b.take tu.length=tu then b.drop tu.length else b)=b.drop 4 from ax i];refine ah ?_;refine ao rfl EW rfl (λw' f=>IP w' (u.ext f.ext) (b.drop 4) aa) ?_;refine ao rfl sg rfl (λw' _=>tw w' 6 (hQ (b.drop 4)) aa) ?_;refine aC ?_;intro d a;exact⟨by rw[k,ax ⟨l,i⟩];rfl,a.ext⟩;refine bo ?_;intro d a;exact⟨by rw[k,ag (λh=>i h.2)];rfl,a.ext⟩;refine dB ?_;intro d a;exact⟨by rw[k,ag (λh=>by rw[l] at h;cases h.1)];rfl,a.ext⟩;refine bo ?_;intro d a;exact⟨by rw[j9,ag g,ag j,ag o,ag p,ag q,ag t];rfl,a.ext⟩
theorem UV (s:List UInt8) (p:List UInt8 × List UInt8) (h:o9 s=some p):p.2.length≤s.length:=by
 unfold o9 at h
 split at h
 split at h
 cases h
 cases h
 have:=ye _ ((s.drop 7).drop (Lib.indexByte (s.drop 7) 47).toNat) (cd _)
 rw[fz,fz] at this
 dsimp only;omega
 cases h
structure vr (w:World):Prop where
 l:fv w
 e:o8 w
 m:rp w
theorem vr.ext {w w':World} (h:vr w) (a:Ext [] w w'):vr w':=⟨h.l.ext a,h.e.ext a,h.m.ext a⟩
set_option maxHeartbeats 1000000 in
theorem IS (w:World) (F:vr w) (s:List UInt8) (J:s.length≤1000000):
 Calls prog 177 [.string (bs s)].toArray w (λe w'=>e= .returned (.agg (lq s).cells.toArray)∧Ext [] w w'):=by
 have K: ∀x∈fE 59 s,x.length≤1000000:=λx L=>by have:=(Iu 59 s x L).2;omega
 have Y:=UQ s
 have b:lq s=if jE s=[49,51,51]∨jE s=[54,51,51] then j9 (decide (jE s=[54,51,51])) (B_ s) (Ca s) (jm s) else if jE s=[55] then tv (jF s) else if jE s=[49,51,51,55] then oQ (jF s) else if (jE s=[48]∨jE s=[50])∧59∈s then nR 8 (jF s) else nQ:=rfl
 have l:=λw'=>Uj w' (jF s) aa
 have M:=UV (jF s)
 refine aW func177 ntmps177 ?_;refine ah ?_;intro z Z Za;refine ay ?_;refine mx (R:=λN=>IR s N) rfl ND rfl (λw' g=>US w' (F.ext g.ext).m s J) (λO o v G P Zb Q S=>?_);obtain⟨A,n,c,rfl,T⟩:=S;have U:Ext [] w o:=G.ext.dU P
 have V:=G.ee
 have d: ∀w',Ext (aB [aD z [.int .i64 0,.int .i64 0,.bool false,.string ByteArray.empty] 175]) o w'→Ext [] w w':=λw' h=>U.trans h V
 have H: ∀w',Ext (aB [aD z [.int .i64 0,.int .i64 0,.bool false,.string ByteArray.empty] 175]) o w'→Rd jD w' (λk=>O.heap.size≤k) A n c (fE 59 s):=λw' h=>T.ext h (λk Zc W=>by have:=Q k W;omega)
 refine aq ?_;intro Zd Ze Zf;refine aC ?_;refine ao rfl wO rfl (λw' g=>ym w' _ A n c _ (H w' g.ext) 0) ?_;refine aJ ?_;rw[show (fE 59 s).getD 0 []=jE s from rfl];have I: ∀q w',Ext (aB [aD z [.int .i64 0,.int .i64 0,.bool false,.string ByteArray.empty] 175]) o w'→Calls prog 258 [.agg #[.slice A n c,.string (bs (jF s)),.bool (decide (59∈s))],.bool q].toArray w' (λe X=>e= .returned (.agg (j9 q (B_ s) (Ca s) (jm s)).cells.toArray)∧Ext [] w' X):=λq w' h=>UU w' (F.ext (d w' h)).e _ A n c _ (H w' h) _ _ q K
 generalize Zg:jE s=one at *
 generalize Zh:jF s=rest at *
 refine bw ?_;refine aj (λr=>?_) (λr=>?_);refine ar ?_;refine ev rfl ((b1 r)) ?_;refine ay ?_;refine ao rfl EF rfl (λw' g=>I (decide (one=[54,51,51])) w' g.ext) ?_;refine aC ?_;intro f a;exact⟨by rw[b,ax (.inl r)];rfl,d _ a.ext⟩;refine ay ?_;refine aj (λB=>?_) (λB=>?_);refine ay ?_;refine ao rfl EF rfl (λw' g=>I (decide (one=[54,51,51])) w' g.ext) ?_;refine aC ?_;intro f a;exact⟨by rw[b,ax (.inr B)];rfl,d _ a.ext⟩;rw[ag (λh=>h.elim r B)] at b
 refine al ?_;refine aj (λC=>?_) (λC=>?_);rw[ax C] at b
 cases j:o9 rest with
 | some p=>
  have Zi:=M p j
  rw[show o_ rest= .tuple #[.string (bs p.1),.string (bs p.2),.int .i64 0] by rw[o_,j]] at l
  refine aS ?_;refine ao rfl EG rfl (λw' _=>l w') ?_;refine eG ?_;refine ao rfl sg rfl (λw' _=>tw w' 6 p.2 aa) ?_;refine aC ?_;intro f a;exact⟨by rw[b,tv,j];rfl,d _ a.ext⟩
 | none=>
  rw[show o_ rest= .tuple #[.string (bs []),.string (bs []),.int .i64 4] by rw[o_,j]] at l
  refine aS ?_;refine ao rfl EG rfl (λw' _=>l w') ?_;refine qX ?_;intro f a;exact⟨by rw[b,tv,j];rfl,d _ a.ext⟩
 rw[ag C] at b
 refine al ?_;refine aj (λD=>?_) (λD=>?_);rw[ax D] at b
 refine aK ?_;refine aj (λt=>?_) (λt=>?_);refine bo ?_;intro f a;exact⟨by rw[b,oQ,ax (show rest=yk from t)];rfl,d _ a.ext⟩;refine al ?_;refine ao rfl EH rfl (λw' _=>It w' rest rq aa a1) ?_;refine bw ?_;refine aj (λu=>?_) (λu=>?_);rw[show (if rest.take rq.length=rq then rest.drop rq.length else rest)=rest.drop 11 from ax u];refine ah ?_;refine ao rfl sg rfl (λw' _=>tw w' 6 (rest.drop 11) (by rw[fz];omega)) ?_;refine aC ?_;intro f a;exact⟨by rw[b,oQ,ag (show ¬rest=yk from t),ax (show rest.take 11=rq from u)];rfl,d _ a.ext⟩;refine bo ?_;intro f a;exact⟨by rw[b,oQ,ag (show ¬rest=yk from t),ag (show ¬rest.take 11=rq from u)];rfl,d _ a.ext⟩;rw[ag D] at b
 refine aC ?_;refine aj (λy=>?_) (λy=>?_);refine ar ?_;refine ev rfl ((b1 y)) ?_;refine al ?_;refine aj (λi=>?_) (λi=>?_);refine aS ?_;refine ao rfl sg rfl (λw' _=>tw w' 8 rest aa) ?_;refine aC ?_;intro f a;exact⟨by rw[b,ax ⟨.inl y,i⟩];rfl,d _ a.ext⟩;refine bo ?_;intro f a;exact⟨by rw[b,ag (λh=>i h.2)];rfl,d _ a.ext⟩;refine ay ?_;refine aj (λE=>?_) (λE=>?_);refine al ?_;refine aj (λi=>?_) (λi=>?_);refine aS ?_;refine ao rfl sg rfl (λw' _=>tw w' 8 rest aa) ?_;refine aC ?_;intro f a;exact⟨by rw[b,ax ⟨.inr E,i⟩];rfl,d _ a.ext⟩;refine bo ?_;intro f a;exact⟨by rw[b,ag (λh=>i h.2)];rfl,d _ a.ext⟩;refine bo ?_;intro f a;exact⟨by rw[b,ag (λh=>h.1.elim y E)];rfl,d _ a.ext⟩
end Go.Proofs.YtkeokgcdnfjaaaaGreatDoor.Mq.Os
namespace Go.Proofs.YtkeokgcdnfjaaaaGreatDoor.Mq
open Go Go.RowKit Go.Proofs Tryz
section
structure et where
 W:World
structure tz [Inhabited et] (w:World):Prop where
 ai: ∀k,k<8→w.heap[k]? = (default:et).W.heap[k]?
 yn:cK.mG w
 it:dt.fv w
 os:Os.vr w
theorem yo {w w':World} (h: ∀k,0≤k→k<8→w'.heap[k]? = w.heap[k]?) {g o:Nat} (a:g<8):w'.cell? ⟨g,o,none⟩=w.cell? ⟨g,o,none⟩:=World.cell?_of_block (w:=w) (h g (bN _) a)
theorem IT {w w':World} (h: ∀k,0≤k→k<8→w'.heap[k]? = w.heap[k]?) (a:dt.fv w):dt.fv w':=by
 have b:prog.globalNamed "internal/strconv.uint64pow10" = some 2:=by kernel_rfl
 unfold dt.fv Lib.TabIs World.var? at *
 rw[b] at a ⊢
 simp only[Option.bind_some] at a ⊢
 rw[h 2 a1 a1];exact a
theorem tz.loc [Inhabited et] (w w':World) (h: ∀k,0≤k→k<8→w'.heap[k]? = w.heap[k]?) (a:tz w):tz w':=by
 refine⟨λk c=>(h k (bN _) c).trans (a.ai k c),λj d=>?_,IT h a.it,IT h a.os.l,?_,?_⟩;rw[yo h a1];exact a.yn j d
 obtain⟨⟨t,p,b⟩,f,gc,g⟩:=a.os.e;exact⟨⟨t,p,by rw[yo h a1];exact b⟩,f,gc,by rw[yo h a1];exact g⟩;obtain⟨m,b⟩:=a.os.m;exact⟨m,by rw[yo h a1];exact b⟩
def d_ [Inhabited et]:Chunk:=rg 0 8 tz tz.loc
def vt [Inhabited et] (X:Chunk):Prop:= ∀w,X.pred w→tz w
section
variable {b:World} {S:List Nat} {cs:List Chunk} {w:World}
theorem af.ea (h:af b S cs w) {l:List Chunk} (a:Has cs (aT l)) {c:Chunk} (d:Has l c):c.pred w:=h.Sw a d
theorem af.vu {l cs':List Chunk} {X:Chunk} (h:af b S cs w) (f:aA cs [aT l,X] cs'): ∀w',Ext (aB l) w w'→X.pred w':=λw' g=>by
 have a:=h.perm f.perm
 have c:=a.all X av
 have d:=a.nodup
 refine X.loc w w' (λk e=>g.block k (X.low w c k e) (λi=>?_)) c;have ak:aB (aT l::X::cs')=aB l++(X.ce++aB cs'):=by simp[aB,aT]
 rw[show [aT l,X]++cs'=aT l::X::cs' from rfl,ak] at d
 exact (fK.1 d).2.2 k i k (n7 _ e) rfl
end
structure kK (T bu:bK):Prop where
 use:bu.use=T.use
 am:bu.am.g=T.am.g
 bj:bu.bj.g=T.bj.g
section
variable {P:Program} {n:Nat} {ops:Array Oper} {Q:cl} {rest:List Oper} {l:Fr} {d:Nat} {ty:TypeId} {pos:String} {a6:Array Edge}
variable {b:World} {S:List Nat} {args:List Operand} {c_:Array TypeId} {f:FuncId} {vs:List Value} {v:Value} {g par k m p:Nat} {R:Int} {T:bK} {X:Chunk}
theorem fx [Inhabited et] (i:cj g R m T) (ai:p=T.am.g) (ak:Nat.blt d n=true) (j:ad P f) (o:cH l args=some (ptr p::vs))
 (q: ∀w,bb w (aO T.am)→(∀w',Ext (aB (aO T.am)) w w'→X.pred w')→Calls P f (ptr T.am.g::vs).toArray w (dW k T.am v w))
 (h: ∀bu:bK,cj g R (m+k) bu→p=bu.am.g→kK T bu→az P n ops Q rest ((d,v)::l) (af b S (bx g par X bu))):
 az P n ops Q (⟨some d,.call ⟨.value (.func f),args.toArray,c_⟩,ty,pos,a6,none⟩::rest) l (af b S (bx g par X T)):=by
 subst ai;refine kB (l0:=aO T.am) (l':=aO) (cs1:=λz=>[eI g par T,aT (aO z),aT (aO T.bj),T.buf.au,T.aF.au,X]) (λz=>bn.tail bn.head) ak j o (λw e=>q w (e.kA (Has.tail Has.head)) (e.vu ae)) (λz a=>?_);have c:=h { T with am:=z } (i.ri a) a.g.symm ⟨rfl,a.g,rfl⟩
 simp only[bx] at c
 rw[rj a.g] at c
 exact c
theorem UW [Inhabited et] (i:cj g R m T) (ak:Nat.blt d n=true) (j:ad P f) (o:cH l args=some vs)
 (p: ∀w,bb w (aO T.am)→(∀w',Ext (aB (aO T.am)) w w'→X.pred w')→Calls P f vs.toArray w (dW k T.am v w))
 (h: ∀bu:bK,cj g R (m+k) bu→kK T bu→az P n ops Q rest ((d,v)::l) (af b S (bx g par X bu))):
 az P n ops Q (⟨some d,.call ⟨.value (.func f),args.toArray,c_⟩,ty,pos,a6,none⟩::rest) l (af b S (bx g par X T)):=by
 refine kB (l0:=aO T.am) (l':=aO) (cs1:=λz=>[eI g par T,aT (aO z),aT (aO T.bj),T.buf.au,T.aF.au,X]) (λz=>bn.tail bn.head) ak j o (λw e=>p w (e.kA (Has.tail Has.head)) (e.vu ae)) (λz a=>?_);have c:=h { T with am:=z } (i.ri a) ⟨rfl,a.g,rfl⟩
 simp only[bx] at c
 rw[rj a.g] at c
 exact c
theorem IU [Inhabited et] {eZ:Chunk} (i:cj g R m T) (ak:Nat.blt d n=true) (j:ad P f) (o:cH l args=some vs)
 (p: ∀w,bb w (aO T.am)→(∀w',Ext (aB (aO T.am)) w w'→X.pred w')→Calls P f vs.toArray w (dW k T.am v w))
 (h: ∀bu:bK,cj g R (m+k) bu→kK T bu→az P n ops Q rest ((d,v)::l) (af b S (eZ::bx g par X bu))):
 az P n ops Q (⟨some d,.call ⟨.value (.func f),args.toArray,c_⟩,ty,pos,a6,none⟩::rest) l (af b S (eZ::bx g par X T)):=by
 refine kB (l0:=aO T.am) (l':=aO) (cs1:=λz=>eZ::[eI g par T,aT (aO z),aT (aO T.bj),T.buf.au,T.aF.au,X]) (λz=>bn.tail (bn.tail bn.head)) ak j o (λw e=>p w (e.kA (Has.tail (Has.tail Has.head))) (e.vu ae)) (λz a=>?_);have c:=h { T with am:=z } (i.ri a) ⟨rfl,a.g,rfl⟩
 simp only[bx] at c
 rw[rj a.g] at c
 exact c
theorem vv [Inhabited et] (i:cj g R m T) (ai:p=T.bj.g) (ak:Nat.blt d n=true) (j:ad P f) (o:cH l args=some (ptr p::vs))
 (q: ∀w,bb w (aO T.bj)→(∀w',Ext (aB (aO T.bj)) w w'→X.pred w')→Calls P f (ptr T.bj.g::vs).toArray w (dW k T.bj v w))
 (h: ∀bu:bK,cj g R (m+k) bu→p=bu.bj.g→kK T bu→az P n ops Q rest ((d,v)::l) (af b S (bx g par X bu))):
 az P n ops Q (⟨some d,.call ⟨.value (.func f),args.toArray,c_⟩,ty,pos,a6,none⟩::rest) l (af b S (bx g par X T)):=by
 subst ai;refine kB (l0:=aO T.bj) (l':=aO) (cs1:=λz=>[eI g par T,aT (aO T.am),aT (aO z),T.buf.au,T.aF.au,X]) (λz=>bn.tail (bn.tail bn.head)) ak j o (λw e=>q w (e.kA (Has.tail (Has.tail Has.head))) (e.vu ae)) (λz a=>?_);have c:=h { T with bj:=z } (i.S_ a) a.g.symm ⟨rfl,rfl,a.g⟩
 simp only[bx] at c
 rw[Ta a.g] at c
 exact c
theorem ga (ak:Nat.blt d n=true) (a:ad P f) (c:cH l args=some vs)
 (e: ∀w,bb w (bx g par X T)→Calls P f vs.toArray w (hn g par X R m v T w))
 (h: ∀bu:bK,cj g R m bu→az P n ops Q rest ((d,v)::l) (af b S (bx g par X bu))):
 az P n ops Q (⟨some d,.call ⟨.value (.func f),args.toArray,c_⟩,ty,pos,a6,none⟩::rest) l (af b S (bx g par X T)):=
 aZ (l0:=bx g par X T) ae ak a c (λw i=>e w (i.bp ae)) h
theorem eh [Inhabited et] {eZ:Chunk} (i:cj g R m T) (ai:p=T.am.g) (ak:Nat.blt d n=true) (j:ad P f) (o:cH l args=some (ptr p::vs))
 (q: ∀w,bb w (aO T.am)→(∀w',Ext (aB (aO T.am)) w w'→X.pred w')→Calls P f (ptr T.am.g::vs).toArray w (dW k T.am v w))
 (h: ∀bu:bK,cj g R (m+k) bu→p=bu.am.g→kK T bu→az P n ops Q rest ((d,v)::l) (af b S (eZ::bx g par X bu))):
 az P n ops Q (⟨some d,.call ⟨.value (.func f),args.toArray,c_⟩,ty,pos,a6,none⟩::rest) l (af b S (eZ::bx g par X T)):=by
 subst ai;refine kB (l0:=aO T.am) (l':=aO) (cs1:=λz=>eZ::[eI g par T,aT (aO z),aT (aO T.bj),T.buf.au,T.aF.au,X]) (λz=>bn.tail (bn.tail bn.head)) ak j o (λw e=>q w (e.kA (Has.tail (Has.tail Has.head))) (e.vu ae)) (λz a=>?_);have c:=h { T with am:=z } (i.ri a) a.g.symm ⟨rfl,a.g,rfl⟩
 simp only[bx] at c
 rw[rj a.g] at c
 exact c
theorem gX {eZ:Chunk} (ak:Nat.blt d n=true) (c:ad P f) (j:cH l args=some vs)
 (k: ∀w,bb w (bx g par X T)→Calls P f vs.toArray w (hn g par X R m v T w))
 (h: ∀bu:bK,cj g R m bu→az P n ops Q rest ((d,v)::l) (af b S (eZ::bx g par X bu))):
 az P n ops Q (⟨some d,.call ⟨.value (.func f),args.toArray,c_⟩,ty,pos,a6,none⟩::rest) l (af b S (eZ::bx g par X T)):=by
 refine gJ rfl ak c j λw a=>?_
 have:=k w (a.bp ae)
 simp only[ir,iP];refine this.mono ?_;rintro e w' ⟨i,hi,rfl,o⟩;exact⟨v,rfl,(h i hi).at ((a.pN ae o).perm (n9 (l₁:=bx g par X i) (l₂:=[eZ])))⟩
theorem IV {eZ rr:Chunk} (ak:Nat.blt d n=true) (c:ad P f) (j:cH l args=some vs)
 (k: ∀w,bb w (bx g par X T)→Calls P f vs.toArray w (hn g par X R m v T w))
 (h: ∀bu:bK,cj g R m bu→az P n ops Q rest ((d,v)::l) (af b S (eZ::rr::bx g par X bu))):
 az P n ops Q (⟨some d,.call ⟨.value (.func f),args.toArray,c_⟩,ty,pos,a6,none⟩::rest) l (af b S (eZ::rr::bx g par X T)):=by
 refine gJ rfl ak c j λw a=>?_
 have:=k w (a.bp ae)
 simp only[ir,iP];refine this.mono ?_;rintro e w' ⟨i,hi,rfl,o⟩;exact⟨v,rfl,(h i hi).at ((a.pN ae o).perm (n9 (l₁:=bx g par X i) (l₂:=[eZ,rr])))⟩
end
theorem nS (w:World) (g par:Nat) (X:Chunk) (T:bK) (b:bb w (bx g par X T)) {R:Int} {m:Nat} (a:cj g R m T) (s:List UInt8) (h:m≤900000000000) (i:s.length≤1000):
 Calls prog 170 [ptr g,.string (bs s)].toArray w (hn g par X R (m+1000) (.tuple #[]) T w):=by
 have j:=a.buf
 refine bI func170 ntmps170 b ?_;refine ay ?_;refine aZ (l0:=[eI g par T,T.buf.au]) ae rfl Ed rfl (λc d=>BQ c g par T (d.bp ae) a.bL s aa) (λz e=>?_);refine ar ?_;intro k f;exact aN { BP g T with buf:=z } ⟨a.am,a.bj,a.room,.inr rfl,a.cg,fp a.be aa,by rw[e,b0];omega,a.aF,a.md⟩ f
theorem rs (w:World) (g par:Nat) (T:bK) (d: (eI g par T).pred w) (c:T.am.an.pred w) (ai:T.am.ap.an.pred w) (f:2≤T.am.ap.cols∧T.am.ap.cols≤1000):Calls prog 219 [ptr g].toArray w (Pure (.int .i64 (min T.am.x (T.am.ap.cols - 1))) w):=by
 refine aW func219 ntmps219 ?_;refine aK ?_;refine ao rfl fa rfl (λa b=>fc a g par T (b.dD d av)) ?_;refine al ?_;refine ao rfl iZ rfl (λa b=>jl a T.am (b.dD c av)) ?_;refine j2 (t:=40) (off:=0) ab em rfl rfl rfl ?_;refine Hv (t:=3) (off:=1) ab bM rfl rfl rfl ?_;refine aq ?_;refine ao rfl jO rfl (λa b=>jW a T.am (b.dD c av)) ?_;refine ao rfl zP rfl (λa b=>Ay a T.am.ap (b.dD ai av)) ?_;refine aC ?_;intro h e;exact⟨rfl,e.ext⟩
end
end Go.Proofs.YtkeokgcdnfjaaaaGreatDoor.Mq
