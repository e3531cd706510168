/- part 20 of the proof -/
import Derived.Test.YtlgnfdodnhokjaaGreatDoorQ09
import Derived.Shelf.GgClosure.StringsIndexFuncTop
import Derived.Laws.RangeAny
namespace Go.Proofs.YtlgnfdodnhokjaaGreatDoor.Mq.ct
open Go Go.RowKit Go.Proofs Tryz
theorem qk: ∀(l:List UInt8) (c:UInt8),(c∉l∧Lib.indexByte l c= -1)∨ ∃pre d,l=pre++c::d∧c∉pre∧Lib.indexByte l c=(pre.length:Int)
 | [],c=> .inl ⟨by simp,rfl⟩
 | b::l,c=>by
  by_cases a:b=c
  subst a;exact .inr ⟨[],l,rfl,by simp,by simp[Lib.indexByte]⟩;rcases qk l c with ⟨e,f⟩ | ⟨pre,d,e,f,g⟩
  exact .inl ⟨by simp[e,Ne.symm a],by simp[Lib.indexByte,a,f]⟩;refine .inr ⟨b::pre,d,by rw[e];rfl,by simp[f,Ne.symm a],?_⟩;have: ¬((pre.length:Int)= -1):=by omega
  simp[Lib.indexByte,a,g,this]
def hZ (r:Nat):Bool:=decide (48≤r) && decide (r≤59)
def hb (s:List UInt8):Bool:=s.all (λc=>hZ c.toNat)
def rx (n:Int) (c:UInt8):Int:=min (n*10+IntKind.u8.wrap ((c.toNat:Int) - 48)) 65535
def pa (s:List UInt8):Int:=if s=[] then -1 else s.foldl rx 0
def j_ (a:UInt8):Nat→List UInt8→List (List UInt8)
 | 0,_=>[]
 | m+1,s=>if a∈s then s.takeWhile (· ≠a)::j_ a m ((s.dropWhile (· ≠a)).drop 1) else [s]
theorem pb {pre post:List UInt8} {sep:UInt8} (h:sep∉pre): (pre++sep::post).takeWhile (· ≠sep)=pre∧((pre++sep::post).dropWhile (· ≠sep)).drop 1=post:=by
 induction pre with
 | nil=>simp
 | cons c pre b=>
  have d:c≠sep:=λe=>h (by simp[e])
  have a:=b (λf=>h (by simp[f]))
  have ak:decide (c≠sep)=true:=bX d
  rw[my,List.takeWhile_cons_of_pos (p:=λx=>decide (x≠sep)) ak,List.dropWhile_cons_of_pos (p:=λx=>decide (x≠sep)) ak,a.1];exact⟨rfl,a.2⟩
theorem S2 {pre post:List UInt8} {a:UInt8} (h:a∉pre) (m:Nat):j_ a (m+1) (pre++a::post)=pre::j_ a m post:=by
 rw[j_,aw av,(pb h).1,(pb h).2]
theorem S3 {s:List UInt8} {a:UInt8} (h:a∉s) (m:Nat):j_ a (m+1) s=[s]:=by
 rw[j_,ag h]
theorem vy (a:UInt8): ∀(m:Nat) (s:List UInt8),(j_ a m s).length≤m
 | 0,_=>by simp[j_]
 | m+1,s=>by
  rw[j_];split
  have:=vy a m ((s.dropWhile (· ≠a)).drop 1);simp only[eO];omega
  simp
def ka (p:List UInt8):List Int:=(j_ 58 8 p).map pa
def vz (s:List UInt8):List (List Int):=(j_ 59 32 s).map ka
theorem H2 (z:Int):0≤IntKind.u8.wrap z∧IntKind.u8.wrap z≤255:=by
 simp[IntKind.wrap,IntKind.bits,IntKind.signed];omega
theorem H3: ∀(s:List UInt8) (n:Int),0≤n∧n≤65535→0≤s.foldl rx n∧s.foldl rx n≤65535
 | [],n,h=>h
 | c::s,n,h=>by
  rw[r6];refine H3 s _ ?_;have:=H2 ((c.toNat:Int) - 48)
  unfold rx;omega
theorem yg:ad prog 407:=ad.of func407 ab ab
theorem Bt:ad prog 428:=ad.of func428 ab ab
theorem Bu:ad prog 399:=ad.of func399 ab ab
theorem yh (w:World) (s:List UInt8) (c:UInt8):
 Calls prog 407 [.string (bs s),.int .u8 (c.toNat:Int)].toArray w (λe w'=>e= .returned (.int .i64 (Lib.indexByte s c))∧w'=w):=by
 refine calls (n:=8) func407 rfl ntmps407 rfl ?_;refine aJ ?_;refine xh rfl rfl (λa _=>FU func436 ab ab ab ab s c a) ?_;refine ay ?_;intro d b;exact⟨rfl,b⟩
theorem Bv (w:World) (s:List UInt8) (c:UInt8):
 Calls prog 428 [.string (bs s),.string (bs [c])].toArray w (λe w'=>e= .returned (.int .i64 (Lib.indexByte s c))∧w'=w):=by
 refine calls (n:=143) func428 rfl ntmps428 rfl ?_;refine eL ?_;refine cC rfl rfl av ?_;refine ar ?_;refine cC rfl rfl av ?_;refine ar ?_;refine cC rfl rfl av ?_;refine ar ?_;refine kt rfl rfl av rfl ?_;refine ah ?_;refine aj (λb=>?_) (λb=>?_);refine aJ ?_;intro d a;refine⟨?_,a⟩;rw[←b];simp[Lib.indexByte]
 refine aC ?_;refine eE rfl (av) ?_;refine aS ?_;refine ij (q:=0) underlying9 rfl rfl rfl bc (rfl: [c][0]? = some c) ?_;refine jj rfl yg rfl (λw' _=>yh w' s c) ?_;refine aC ?_;intro d a;exact⟨rfl,a⟩
def iU (s:List UInt8) (c:UInt8):Value:=if c∈s then .tuple #[.string (bs (s.takeWhile (· ≠c))),.string (bs ((s.dropWhile (· ≠c)).drop 1)),.bool true] else .tuple #[.string (bs s),.string (bs []),.bool false]
theorem Bw (w:World) (s:List UInt8) (c:UInt8) (l:s.length≤1000000):
 Calls prog 399 [.string (bs s),.string (bs [c])].toArray w (λe w'=>e= .returned (iU s c)∧Ext [] w w'):=by
 refine aV func399 ntmps399 ?_;refine bx ?_;refine jj rfl Bt rfl (λw' _=>Bv w' s c) ?_;refine aJ ?_;rcases qk s c with ⟨j,a⟩ | ⟨pre,f,b,g,a⟩
 rw[a];refine bH ?_;intro k d;exact⟨by rw[iU,ag j],d.ext⟩;rw[a];refine eE rfl (av) ?_;have m:pre.length+1≤s.length:=by rw[b];simp
 refine ar ?_;refine bF [0,1,2,3,4,5,6,7,8,9,10,11] 0 [[]] ?_;refine aq ?_;refine aL rfl (λh i=>(pJ pre.length underlying9 rfl rfl rfl bc aa aG)) ?_;refine aS ?_;refine aL rfl (λh i=>(hk (r:=((pre.length+1 :Nat):Int)) rfl rfl rfl (by rw[wrap64 (by simp;omega) (by simp;omega)];simp) aG)) ?_;refine aL rfl (λh i=>(pI (pre.length+1) underlying9 rfl rfl rfl bc aa aG)) ?_;refine aJ ?_;intro k d;refine⟨?_,d.ext⟩;rw[iU,aw (by rw[b];simp),b,(pb g).1,(pb g).2,sc,show pre++c::f=(pre++[c])++f by simp,List.drop_left'] <;> simp
theorem Bx (w:World) (s:List UInt8) (c:UInt8) (a:s.length≤1000000):
 Calls prog 338 [.string (bs s),.string (bs [c])].toArray w (λe w'=>e= .returned (iU s c)∧Ext [] w w'):=by
 refine aV func338 ntmps338 ?_;refine bp ?_;refine ao rfl Bu rfl (λw' _=>Bw w' s c a) ?_;obtain⟨x,y,b,d⟩ : ∃x y b,iU s c= .tuple #[.string x,.string y,.bool b]:=by unfold iU;split <;> exact⟨_,_,_,rfl⟩
 rw[d];refine aQ ?_;intro g f;exact⟨rfl,f.ext⟩
theorem S4 (w:World) (s:List UInt8) (l:s.length≤1000000):
 Calls prog 300 [.string (bs s)].toArray w (λe w'=>e= .returned (.int .i64 (pa s))∧w'=w):=by
 refine calls (n:=23) func300 rfl ntmps300 rfl ?_;refine bx ?_;refine aj (λa=>?_) (λa=>?_);refine aK ?_;intro g b;exact⟨by rw[pa,aw (by simpa using a)],b⟩;refine b7 ?_;refine b2 (ι:=Nat) (λk=>[(0,.string (bs s)),(3,.int .i64 ((s.take k).foldl rx 0)),(4,.int .i64 (k:Int))]) (λ_ x=>x=w) (λk=>k≤s.length) (λk=>s.length - k) ?_ ?_;exact λw' d=>⟨0,bP _,(em rfl rfl rfl),d⟩
 rintro k m;refine aJ ?_;refine aj (λh=>?_) (λh=>?_);obtain⟨c,f⟩ : ∃c,s[k]? = some c:=⟨s[k]'aa,bE _⟩;have o:=H3 (s.take k) 0 aa
 have p:=H2 ((c.toNat:Int) - 48)
 have i: (s.take (k+1)).foldl rx 0=min ((s.take k).foldl rx 0*10+IntKind.u8.wrap ((c.toNat:Int) - 48)) 65535:=by
  rw[fR,f,pB,List.foldl_append];rfl
 refine al ?_;refine k3 rfl rfl rfl (wrap64 aa aa) ?_;refine aq ?_;refine ij (q:=k) underlying9 rfl rfl rfl aa f ?_;refine gS rfl rfl rfl rfl ?_;refine bx ?_;refine bi (k+1) aa aa (Sub.cons bc (Sub.cons ?_ (Sub.cons bc Sub.nil))) (λw' d=>d);rw[i];simp[look]
 have j:s.take k=s:=ev aa
 rw[j];refine bH ?_;intro g b;exact⟨by rw[pa,ag (by simpa using a)],b⟩
theorem yi (w:World) (f:FuncId) (cap:Array Value) (z:ad prog f) (b:List (List UInt8)→World→Prop) (fC:List UInt8) (N:fC.length≤1000000)
 (m:Nat) (O:m≤1000) (A: ∀a part w',b a w'→a.length<m→(part.length≤fC.length∧ ∀c∈part,c∈fC)→Calls prog f (#[]++[Value.string (bs part)].toArray++cap) w' (λe i=>e= .returned (.tuple #[])∧b (a++[part]) i))
 (p: ∀a w' i,b a w'→Ext [] w' i→b a i) (d:UInt8) (C:b [] w):
 Calls prog 297 [.string (bs fC),.string (bs [d]),.int .i64 (m:Int),.func (.func f) #[] cap].toArray w (λe w'=>e= .returned (.tuple #[])∧b (j_ d m fC) w'):=by
 refine calls (n:=30) func297 rfl ntmps297 rfl ?_;refine cH (H':=b []) ?_ (Sub.refl _) (λx p=>p▸C);refine al ?_;refine b2 (ι:=Nat × List UInt8 × List (List UInt8)) (λt=>[(0,.string (bs t.2.1)),(1,.string (bs [d])),(2,.int .i64 (m:Int)),(3,.func (.func f) #[] cap),(8,.int .i64 (t.1 :Int))]) (λt=>b t.2.2) (λt=>t.1≤m∧t.2.2.length=t.1∧(t.2.1.length≤fC.length∧ ∀c∈t.2.1,c∈fC)∧j_ d m fC=t.2.2++j_ d (m - t.1) t.2.1) (λt=>m - t.1) ?_ ?_;exact λw' g=>⟨(0,fC,[]),⟨bP _,rfl,⟨bW _,λc l=>l⟩,rfl⟩,(ec rfl rfl rfl rfl rfl),g⟩
 rintro⟨k,r,a⟩ ⟨D,E,o,h⟩;dsimp only at D E o h ⊢
 refine aK ?_;refine aj (λF=>?_) (λF=>?_);obtain⟨q,G⟩ : ∃q,m - k=q+1:=⟨m - k - 1,aa⟩;rw[G] at h
 refine aK ?_;refine sO (v:=iU r d) (H':=b a) rfl Fm rfl (λw' g=>?_) ?_;refine Calls.mono (Bx w' r d aa) ?_;rintro e i ⟨rfl,H⟩;exact⟨rfl,p a w' i g H⟩;rcases qk r d with ⟨B,I⟩ | ⟨pre,s,j,u,I⟩
 rw[iU,ag B];refine bH ?_;refine Aw (v:= .tuple #[]) (H':=b (a++[r])) rfl rfl z rfl (λw' g=>A a r w' g aa o) ?_;refine ey ?_;intro J y;rw[S3 B] at h
 rw[h];exact⟨rfl,y⟩;have K:d∈r:=by rw[j];simp
 rw[iU,aw K];rw[j,(pb u).1,(pb u).2];have P:pre.length≤r.length∧s.length≤r.length:=by rw[j];simp;omega
 have L: ∀c∈pre,c∈fC:=λc l=>o.2 c (by rw[j];simp[l])
 have M: ∀c∈s,c∈fC:=λc l=>o.2 c (by rw[j];simp[l])
 refine bH ?_;refine Aw (v:= .tuple #[]) (H':=b (a++[pre])) rfl rfl z rfl (λw' g=>A a pre w' g aa ⟨aa,L⟩) ?_;refine oP ?_;rw[j,S2 u] at h
 refine bi (k+1,s,a++[pre]) ⟨by dsimp only;omega,by simp;omega,⟨by dsimp only;omega,M⟩,?_⟩ bm (ec rfl rfl rfl rfl rfl) (λw' g=>g);dsimp only;rw[h,show m - (k+1)=q by omega];simp
 refine ay ?_;intro J y;rw[show m - k=0 by omega,j_,eu] at h
 rw[h];exact⟨rfl,y⟩
def By:Shelf.Ren:=⟨λ| 15=>366 | 20=>414 | n=>n,λ| 0=>0 | 3=>3 | 4=>4 | 9=>9 | 21=>21 | 23=>298 | n=>n,λn=>n⟩
theorem Bz:LaysGw.n15 prog By where
 mixed:=by kernel_rfl
 f15:=func366.trans (aU some ab)
 f20:=func414.trans (aU some ab)
 t0:=underlying0
 a0:=isAgg0
 z0:=sizeOf0
 v0:=zeroValue0
 i0:=by kernel_rfl
 t3:=underlying3
 a3:=isAgg3
 z3:=sizeOf3
 v3:=zeroValue3
 i3:=by kernel_rfl
 t4:=underlying4
 a4:=isAgg4
 z4:=sizeOf4
 v4:=zeroValue4
 i4:=by kernel_rfl
 t9:=underlying9
 a9:=isAgg9
 z9:=sizeOf9
 v9:=zeroValue9
 i9:=by kernel_rfl
 t21:=underlying21
 a21:=isAgg21
 z21:=sizeOf21
 v21:=zeroValue21
 i21:=by kernel_rfl
 t23:=underlying298
 a23:=isAgg298
 z23:=sizeOf298
 v23:=zeroValue298
 i23:=by kernel_rfl
theorem S5:ad prog 367:=ad.of func367 ab ab
theorem S6 (w:World) (r:Nat):
 Calls prog 367 [.int .i32 (r:Int)].toArray w (λe w'=>e= .returned (.bool (!hZ r))∧w'=w):=by
 refine calls (n:=17) func367 rfl ntmps367 rfl ?_;refine aQ ?_;refine aW 5 rfl (λf=>?_) (λf=>?_);have h:=aX f
 refine aQ ?_;refine aW 13 rfl (λb=>?_) (λb=>?_);have c:=aX b
 refine aQ ?_;intro d a;refine⟨?_,a⟩;have:hZ r=false:=by simp[hZ];omega
 rw[this,bX aa];rfl
 have c:=bd b
 refine aK ?_;intro d a;exact absurd c aa;have h:=bd f
 refine al ?_;refine aW 9 rfl (λg=>?_) (λg=>?_);have i:=aX g
 refine al ?_;refine aW 13 rfl (λb=>?_) (λb=>?_);have c:=aX b
 refine aQ ?_;intro d a;refine⟨?_,a⟩;by_cases j: (r:Int)=58
 have:hZ r=true:=by simp[hZ];omega
 rw[this,cg aa];rfl
 have:hZ r=false:=by simp[hZ];omega
 rw[this,bX j];rfl
 have c:=bd b
 refine aK ?_;intro d a;have:hZ r=true:=by simp[hZ];omega
 exact⟨by rw[this];rfl,a⟩;have i:=bd g
 refine bx ?_;intro d a;have:hZ r=true:=by simp[hZ];omega
 exact⟨by rw[this];rfl,a⟩
theorem H4 (s:List UInt8): ∀(f pos:Nat),s.length≤f+pos→(Lib.idxFuncFrom (λr=> !hZ r) true (bs s) f pos<0↔ ∀(j:Nat) (c:UInt8),pos≤j→s[j]? = some c→hZ c.toNat=true)
 | 0,pos,h=>by
  constructor
  intro _ j c e a;have:=(cK.1 a).1
  omega
  intro _;simp[Lib.idxFuncFrom]
 | f+1,pos,h=>by
  unfold Lib.idxFuncFrom;rw[hH];by_cases ai:pos<s.length
  rw[aw ai];have g:pos<(bs s).size:=by rw[hH];exact ai
  have i: (bs s)[pos]'g=s[pos]:=by simp[bs,ByteArray.getElem_eq_getElem_data]
  by_cases l: (s[pos]).toNat<128
  have ak:=decode_ascii (bs s) pos g (by rw[i];exact l)
  rw[i] at ak
  rw[ak];dsimp only;by_cases d:hZ (s[pos]).toNat=true
  rw[ag (by simp[d]),H4 s f (pos+1) aa];constructor
  intro b j c e a;by_cases m:j=pos
  subst m;rw[bE ai] at a
  simp only[dA] at a
  rw[←a];exact d
  exact b j c aa a;intro b j c e a;exact b j c aa a;rw[aw (by simp[d])];constructor
  intro n;omega
  intro b;exact absurd (b pos s[pos] (bW _) (bE ai)) d;have ak:=decode_high (bs s) pos g (by rw[i];omega)
  have k: ∀r,128≤r→hZ r=false:=λr o=>by simp[hZ];omega
  rw[aw (by simp[k _ ak.1])];constructor
  intro n;omega
  intro b;have:=b pos s[pos] (bW _) (bE ai)
  rw[k _ aa] at this
  cases this
  rw[ag ai];constructor
  intro _ j c e a;have:=(cK.1 a).1
  omega
  intro _;omega
theorem S7 (w:World) (s:List UInt8):
 Calls prog 296 [.string (bs s)].toArray w (λe w'=>e= .returned (.bool (hb s))∧Ext [] w w'):=by
 have d: ∀w',Calls prog 366 [.string (bs s),.func (.func 367) #[] #[]].toArray w' (λe a=>e= .returned (.int .i64 (Lib.idxFunc (λr=> !hZ r) true (bs s)))∧Ext [] w' a):=λw'=>by
  refine Calls.mono (Any.strings_IndexFunc Bz 367 #[] (λargs w=>zp S5 args w) (λr=> !hZ r) (bs s) w' (λW x _=>?_)) (λe a h=>⟨h.1,Ext.sk h.2⟩);refine Calls.mono (S6 W x) (λe a h=>⟨h.1,0,?_⟩);rw[h.2];rfl
 have f:decide (Lib.idxFunc (λr=> !hZ r) true (bs s)<0)=hb s:=by
  have:=H4 s s.length 0 aa
  rw[Lib.idxFunc,hH];rw[Bool.eq_iff_iff,decide_eq_true_iff,this,hb,i_];constructor
  intro h c b;obtain⟨j,g⟩:=qK b;exact h j c (bP _) g;intro h j c _ b;exact h c (da b)
 refine aV func296 ntmps296 ?_;refine aK ?_;refine ao rfl Ft rfl (λw' _=>d w') ?_;refine al ?_;intro k i;exact⟨by rw[f],i.ext⟩
def bT:bA Int:=⟨λx=>[.int .i64 x],1,λ_=>rfl,λ_=>by repeat (first | exact aI.nil | refine aI.cons rfl ?_)⟩
structure l9 where
 A:Option Addr
 n:Nat
 c:Nat
def gI:bA l9:=⟨λs=>[.slice s.A s.n s.c],1,λ_=>rfl,λ_=>by repeat (first | exact aI.nil | refine aI.cons rfl ?_)⟩
theorem S8 {P:Program} {n:Nat} {ops:Array Oper} {Q:cq} {rest:List Oper} {l:Fr} {ι:Type} {H:ι→World→Prop} (h: ∀i,az P n ops Q rest l (H i)):az P n ops Q rest l (λw=> ∃i,H i w):=
 λw ⟨i,b⟩ a c=>h i w b a c
theorem S9 {P:Program} {n:Nat} {ops:Array Oper} {Q:cq} {rest:List Oper} {l:Fr} {H:World→Prop} (h: ∀w,H w→az P n ops Q rest l (λx=>x=w)):az P n ops Q rest l H:=
 λw b a c=>h w b w rfl a c
theorem S_ (b:World) (S:List Nat) (cs:List Chunk) (a:Nat) (v:Value) (L:List Int) (part:List UInt8) (ai:part.length≤1000000) (m:L.length≤1000) (w:World)
 (d:af b S (aD a [v] 73::own 3 1 v L.length (bT.all L)::cs) w):
 Calls prog 299 [.string (bs part),.pointer (some ⟨a,0,none⟩)].toArray w (λe w'=>e= .returned (.tuple #[])∧ ∃c,af b S (aD a [c] 73::own 3 1 c (L++[pa part]).length (bT.all (L++[pa part]))::cs) w'):=by
 refine calls (n:=8) func299 rfl ntmps299 rfl ?_;refine cH (H':=af b S (aD a [v] 73::own 3 1 v L.length (bT.all L)::cs)) ?_ (Sub.refl _) (λx f=>f▸d);refine bF [0,1,2] 3 [[(3,false,[]),(4,true,[]),(5,true,[])]] ?_;refine aq ?_;refine aL rfl (λo p=>(jj rfl OE rfl (λw' _=>S4 w' part ai) aG)) ?_;refine ah ?_;intro q r s;refine b3 (λ_=>True) (λ_ h=> .inr (h.rem bw.head)) (λ_ h=>a1) ?_;refine aq ?_;refine gx dL rfl rfl rfl bj (λ_=>by exact ew) rfl (io rfl) (by simp only[maxLen];omega) aa (λg t=>?_);refine ah ?_;refine jd (v:=g) (Has.tail Has.head) (λi j k u y z A=>?_);subst k;refine ay ?_;intro B l;refine⟨rfl,.slice i (L.length+1) j,?_⟩;rw[b6,bA.hn bT];exact l
def d9 (w:World) (F:Nat→Prop) (A:Option Addr) (n c:Nat) (gs:List (List Int)):Prop:=
 ∃a:List l9,Rd gI w F A n c a∧a.length=gs.length∧ ∀(k:Nat) (s:l9) (g:List Int),a[k]? = some s→gs[k]? = some g→Rd bT w F s.A s.n s.c g
abbrev jM (c:Nat) (a:Value) (b:List l9):List Chunk:=[aD c [a] 169,own 73 1 a b.length (gI.all b)]
def ry (w:World) (b:Nat) (gs:List (List Int)) (w':World):Prop:=
 ∃d a,af w' (aB (jM b d a)) (jM b d a) w'∧Ext [] w w'∧(∀k∈aB (jM b d a),w.heap.size≤k)∧a.length=gs.length∧
  ∀(k:Nat) (s:l9) (g:List Int),a[k]? = some s→gs[k]? = some g→Rd bT w' (λk=>w.heap.size≤k∧k∉aB (jM b d a)) s.A s.n s.c g
theorem ry.ext {w b c:World} {d:Nat} {gs:List (List Int)} (h:ry w d gs b) (a:Ext [] b c):ry w d gs c:=by
 obtain⟨e,f,i,j,l,m,n⟩:=h;exact⟨e,f,(i.keep a).oC,j.dW a,l,m,λk s g o p=>(n k s g o p).ext a av⟩
theorem Ta (w:World) (b:Nat) (gs:List (List Int)) (part:List UInt8) (ai:part.length≤1000000) (X:gs.length≤1000) (d:World) (K:ry w b gs d):
 Calls prog 298 [.string (bs part),.pointer (some ⟨b,0,none⟩)].toArray d (λe w'=>e= .returned (.tuple #[])∧ry w b (gs++[ka part]) w'):=by
 obtain⟨f,a,L,D,B,F,M⟩:=K;have Y:=vy 58 8 part
 refine calls (n:=11) func298 rfl ntmps298 rfl ?_;refine cH (H':=af d (aB (jM b f a)) (jM b f a)) ?_ (Sub.refl _) (λx m=>m▸L);generalize Z:aB (jM b f a)=S at *
 refine aq ?_;refine oD im rfl (λo Za Zb=>?_);refine al ?_;refine qV 3 1 ?_;refine sO (v:= .tuple #[]) (H':=λw'=> ∃v,af d S (aD o [v] 73::own 3 1 v (ka part).length (bT.all (ka part))::jM b f a) w') rfl Fh rfl (λw' N=>?_) ?_
 ·refine yi w' 299 #[.pointer (some ⟨o,0,none⟩)] OD (λq w'=> ∃v,af d S (aD o [v] 73::own 3 1 v (List.map pa q).length (bT.all (List.map pa q))::jM b f a) w') part ai 8 aZ ?_ ?_ 58 ⟨.slice none 0 0,N.swap⟩
  ·rintro q p G ⟨v,C⟩ Zc ⟨Zd,_⟩
   rw[fQ];exact S_ d S (jM b f a) o v (List.map pa q) p aa (by rw[cB];omega) G C
  ·rintro q G Ze ⟨v,C⟩ m
   exact⟨v,C.keep m⟩
 refine S8 λv=>?_
 refine jd (v:=v) (Has.tail Has.head) (λi j O Zf Zg Zh Zi=>?_);subst O;refine al ?_;intro Zj Zk Zl;refine gx kv rfl rfl rfl bj (λ_=>by exact nB) rfl (io rfl) (by simp only[maxLen];omega) aa (λP Zm=>?_);refine jd (v:=P) gD (λr t Q Zn Zo Zp Zq=>?_);subst Q;refine ah ?_;intro R z;have A:af d S (jM b (.slice r (a.length+1) t) (a++[⟨i,(ka part).length,j⟩])) R:=by
  unfold jM;rw[b6,bA.hn gI];exact (z.rem bw.head).rem bw.head
 have H: ∀k,k∈aB (jM b (.slice r (a.length+1) t) (a++[⟨i,(ka part).length,j⟩]))→k∈S∨d.heap.size≤k:=λk c=>by
  rcases ej k d.heap.size with h | h
  ·exact .inl (A.ek k c h)
  ·exact .inr h
 have Zr:=D.size
 refine⟨rfl,.slice r (a.length+1) t,a++[⟨i,(ka part).length,j⟩],A.oC,D.trans A.ext (λx m Zs=>absurd (B x m) aa),λk c=>?_,by simp[F],λk s g l u=>?_⟩
 ·rcases H k c with h | h
  ·exact B k h
  ·omega
 ·by_cases T:k<a.length
  ·rw[mA T] at l
   rw[mA aa] at u
   exact (((M k s g l u).hI aZ).ext A.ext (λk c=>c.1.2)).dC (λk c=>⟨c.1.1,λy=>by
    rcases H k y with h | h
    ·exact c.1.2 h
    ·have:=c.2;omega⟩)
  ·have y:k=a.length:=by
    have:=(cK.1 l).1
    simp at this;omega
   subst y;rw[kp (bW _),nh] at l
   rw[kp aa,F,nh] at u
   simp only[qJ,dA] at l u
   subst l;subst u
   obtain⟨Zt,Zu,U,V⟩:=Rd.gf (E:=bT) (z.has (Has.tail Has.head)) rfl;cases U
   have I:=z.nodup
   refine V.dC (λk c=>⟨?_,λy=>?_⟩)
   ·have W:k∈aB [aD o [Value.slice i (ka part).length j] 73,own 3 1 (Value.slice i (ka part).length j) (ka part).length (bT.all (ka part)),aD b ([f].set 0 (Value.slice r (a.length+1) t)) 169,own 73 1 (Value.slice r (a.length+1) t) (a.length+1) (gI.all a++putAt (ff [Value.slice none 0 0] 1) (0*1) (Value.slice i (ka part).length j).cells.toList)]:=by
     rw[fq,fq];exact cZ.2 (.inr (cZ.2 (.inl (jb.2 c))))
    rcases ej k d.heap.size with h | h
    ·exact B k (z.ek k W h)
    ·omega
   ·rw[fq,fq,fW] at I
    have J:=I.2.1
    rw[fW] at J
    exact J.2.2 k (jb.2 c) k y rfl
def yj (w:World) (s:List UInt8):Ending→World→Prop:=λe w'=>
 if hb s=true then ∃A n c,e= .returned (.tuple #[.slice A n c,.bool true])∧Ext [] w w'∧d9 w' (λk=>w.heap.size≤k) A n c (vz s)
 else e= .returned (.tuple #[.slice none 0 0,.bool false])∧Ext [] w w'
theorem Tb (w:World) (s:List UInt8) (u:s.length≤1000000):
 Calls prog 209 [.string (bs s)].toArray w (yj w s):=by
 have L:=vy 59 32 s
 refine aV func209 ntmps209 ?_;refine aQ ?_;refine ao rfl OB rfl (λw' _=>S7 w' s) ?_;refine ah ?_;refine b1 rfl (λi=>?_) (λi=>?_)
 ·refine aJ ?_
  intro y d;rw[yj,ag (by simpa using i)];exact⟨rfl,d.ext⟩
 ·have z:hb s=true:=by simpa using i
  refine aS ?_;refine oD Mx rfl (λc M N=>?_);refine al ?_;refine qV 73 1 ?_;refine sO (v:= .tuple #[]) (H':=ry w c (vz s)) rfl Fh rfl (λw' l=>?_) ?_
  ·refine yi w' 298 #[.pointer (some ⟨c,0,none⟩)] OC (λh w'=>ry w c (List.map ka h) w') s u 32 aZ ?_ ?_ 59 ?_
   ·rintro h p m e O ⟨P,_⟩
    rw[fQ];exact Ta w c (List.map ka h) p aa (by rw[cB];omega) m e
   ·rintro h m Q e f
    exact e.ext f
   ·refine⟨.slice none 0 0,[],l.swap.oC,l.ext,λk a=>?_,rfl,by simp⟩
    rw[fq,fq] at a
    simp[aD,own,aB,Value.ownBlock] at a
    omega
  refine S9 λA e=>?_
  obtain⟨j,b,B,n,C,D,F⟩:=e;refine gR (H':=af A (aB (jM c j b)) (jM c j b)) ?_ (Sub.refl _) (λx f=>f▸B);refine jd (v:=j) (Has.tail Has.head) (λo q G R S T U=>?_);subst G;refine bp ?_;intro y d;rw[yj,aw z];obtain⟨V,W,H,r⟩:=Rd.gf (E:=gI) (d.has (Has.tail Has.head)) rfl;cases H
  have X:=n.size
  have t: ∀k∈aB (jM c (.slice o b.length q) b),w.heap.size≤k:=C
  rw[show b.length=b.length from rfl] at r
  refine⟨o,b.length,q,rfl,n.trans d.ext (λx f Y=>absurd (t x f) aa),b,r.dC (λk a=>t k (by rw[fq,fq];exact cZ.2 (.inr (cZ.2 (.inl (jb.2 a)))))),D,λk I g J K=>((F k I g J K).ext d.ext (λk a=>a.2)).dC (λk a=>a.1)⟩
theorem d9.len {w:World} {F:Nat→Prop} {A:Option Addr} {n c:Nat} {gs:List (List Int)} (h:d9 w F A n c gs):gs.length=n:=by
 obtain⟨d,a,b,_⟩:=h;rw[←b];exact a.len
theorem d9.xx {w:World} {F:Nat→Prop} {A:Option Addr} {n c:Nat} {gs:List (List Int)} (h:d9 w F A n c gs):n≤c∧c≤maxLen:=by
 obtain⟨b,a,d,_⟩:=h;exact⟨a.cap,a.max⟩
theorem d9.ext {S:List Nat} {w w':World} {F:Nat→Prop} {A:Option Addr} {n c:Nat} {gs:List (List Int)} (h:d9 w F A n c gs) (a:Ext S w w') (b: ∀k,F k→k∉S):d9 w' F A n c gs:=by
 obtain⟨d,e,f,i⟩:=h;exact⟨d,e.ext a b,f,λk s g j l=>(i k s g j l).ext a b⟩
theorem d9.dC {w:World} {F F':Nat→Prop} {A:Option Addr} {n c:Nat} {gs:List (List Int)} (h:d9 w F A n c gs) (a: ∀k,F k→F' k):d9 w F' A n c gs:=by
 obtain⟨b,d,e,f⟩:=h;exact⟨b,d.dC a,e,λk s g i j=>(f k s g i j).dC a⟩
theorem d9.hI {w:World} {F:Nat→Prop} {A:Option Addr} {n c:Nat} {gs:List (List Int)} (h:d9 w F A n c gs):d9 w (λk=>F k∧k<w.heap.size) A n c gs:=by
 obtain⟨a,b,d,e⟩:=h;exact⟨a,b.hI aZ,d,λk s g f i=>(e k s g f i).hI aZ⟩
theorem d9.at_ {w:World} {F:Nat→Prop} {A:Option Addr} {n c:Nat} {gs:List (List Int)} (h:d9 w F A n c gs) {k:Nat} {g:List Int} (a:gs[k]? = some g):
 ∃bY b m d,A=some bY∧F bY.block∧w.cell? (bY.add (k*1))=some (.slice b m d)∧Rd bT w F b m d g:=by
 obtain⟨e,i,q,j⟩:=h;have r:=(cK.1 a).1
 obtain⟨s,f⟩ : ∃s,e[k]? = some s:=⟨e[k]'aa,bE _⟩;obtain⟨bY,l,o,p⟩:=i.at_ f;refine⟨bY,s.A,s.n,s.c,l,o,?_,j k s g f a⟩;have:=p 0 (.slice s.A s.n s.c) rfl
 simpa [gI,Addr.add] using this
theorem d9.cut {w:World} {F:Nat→Prop} {A:Option Addr} {n c:Nat} {gs:List (List Int)} (h:d9 w F A n c gs) {p q:Nat} (ai:p≤q) (d:q≤n):d9 w F (if c=p then A else A.map (·.add (p*1))) (q - p) (c - p) ((gs.take q).drop p):=by
 obtain⟨e,f,i,j⟩:=h;refine⟨(e.take q).drop p,f.cut ai d,by simp[i],λk s g a b=>?_⟩;rw[mB,iD] at a b
 split at a
 rename_i l;rw[aw l] at b
 exact j _ s g a b;cases a
theorem d9.nil (w:World) (F:Nat→Prop):d9 w F none 0 0 []:=⟨[],Rd.nil gI w F 0 aZ none,rfl,by simp⟩
def s7 (w:World) (gs:List (List Int)):Ending→World→Prop:=λe w'=> ∃A n c,e= .returned (.slice A n c)∧Ext [] w w'∧d9 w' (λk=>w.heap.size≤k) A n c gs
def BA (gs:List (List Int)) (w:World) (v:Value) (w':World):Prop:= ∃A n c,v= .slice A n c∧d9 w' (λk=>w.heap.size≤k) A n c gs
theorem s7.H5 {w w':World} {gs:List (List Int)} {e:Ending} (h:s7 w gs e w'):nx (BA gs w) w e w':=by
 obtain⟨A,n,c,rfl,a,b⟩:=h;exact⟨_,rfl,a,A,n,c,rfl,b⟩
def kb (w:World) (v:Value) (a:List l9) (gs:List (List Int)) (w':World):Prop:=
 af w' (aB [own 73 1 v a.length (gI.all a)]) [own 73 1 v a.length (gI.all a)] w'∧Ext [] w w'∧(∀k∈aB [own 73 1 v a.length (gI.all a)],w.heap.size≤k)∧a.length=gs.length∧
  ∀(k:Nat) (s:l9) (g:List Int),a[k]? = some s→gs[k]? = some g→Rd bT w' (λk=>w.heap.size≤k∧k∉aB [own 73 1 v a.length (gI.all a)]) s.A s.n s.c g
theorem kb.step {w p d l:World} {v m:Value} {b:List l9} {gs:List (List Int)} {s:l9} {g:List Int} {S:List Nat} (B:aB [own 73 1 v b.length (gI.all b)]=S) (h:kb w v b gs p) (e:Ext S p d)
 (C:af d S [own 73 1 m (b.length+1) (gI.all b++gI.enc s)] l) (D:Rd bT d (λk=>w.heap.size≤k∧k∉S) s.A s.n s.c g):kb w m (b++[s]) (gs++[g]) l:=by
 obtain⟨H,t,q,u,y⟩:=h;rw[B] at q y
 have o:af d S [own 73 1 m (b++[s]).length (gI.all (b++[s]))] l:=by
  rw[b6,bA.hn gI];exact C
 have I:=t.size
 have J:=e.size
 have r: ∀k,k∈aB [own 73 1 m (b++[s]).length (gI.all (b++[s]))]→k∈S∨d.heap.size≤k:=λk a=>by
  rcases ej k d.heap.size with h | h
  exact .inl (o.ek k a h);exact .inr h
 have z:Ext S p l:=e.trans o.ext (λx e _=>e)
 refine⟨o.oC,t.trans z (λx e K=>absurd (q x e) aa),λk a=>?_,by simp[u],λk E F f i=>?_⟩;rcases r k a with h | h
 exact q k h;omega
 by_cases G:k<b.length
 rw[mA G] at f
 rw[mA aa] at i
 exact (((y k E F f i).hI aZ).ext z (λk a=>a.1.2)).dC (λk a=>⟨a.1.1,λj=>by
  rcases r k j with h | h
  exact a.1.2 h;have:=a.2;omega⟩)
 have j:k=b.length:=by
  have:=(cK.1 f).1
  simp at this;omega
 subst j;rw[kp (bW _),nh] at f
 rw[kp aa,u,nh] at i
 simp only[qJ,dA] at f i
 subst f;subst i
 exact ((D.hI aZ).ext o.ext (λk a=>a.1.2)).dC (λk a=>⟨a.1.1,λj=>by
  rcases r k j with h | h
  exact a.1.2 h;have:=a.2;omega⟩)
theorem kb.ret {w w':World} {v:Value} {a:List l9} {gs:List (List Int)} (h:kb w v a gs w'): ∃A c,v= .slice A a.length c∧Ext [] w w'∧d9 w' (λk=>w.heap.size≤k) A a.length c gs:=by
 obtain⟨d,e,f,i,j⟩:=h;obtain⟨A,c,l,m⟩:=Rd.gf (E:=gI) (d.has Has.head) rfl;exact⟨A,c,l,e,a,m.dC (λk b=>f k (by rw[fq];exact cZ.2 (.inl (jb.2 b)))),i,λk s g n o=>(j k s g n o).dC (λk b=>b.1)⟩
theorem kb.nil {w w':World} (h:af w [] [own 73 1 (.slice none 0 0) 0 []] w'):kb w (.slice none 0 0) [] [] w':=
 ⟨h.oC,h.ext,λk a=>by simp[aB,own,Value.ownBlock] at a,rfl,by simp⟩
theorem kb.later {w c d:World} {v:Value} {a:List l9} {gs:List (List Int)} (h:kb w v a gs c) (b:af c (aB [own 73 1 v a.length (gI.all a)]) [own 73 1 v a.length (gI.all a)] d):kb w v a gs d:=by
 obtain⟨p,e,f,i,j⟩:=h;have q:=e.size
 exact⟨b.oC,e.trans b.ext (λx l r=>absurd (f x l) aa),f,i,λk s g m n=>(j k s g m n).ext b.ext (λk o=>o.2)⟩
def nU (n:Int):Int:=max (-1) (min n 65535)
def kc (g:List Int):List Int:=if g=[] then [-1] else (g.take 8).map nU
def fy (gs:List (List Int)):List (List Int):=if gs=[] then [[-1]] else (gs.take 32).map kc
theorem Tc (w:World) (n:Int):Calls prog 387 [.int .i64 n].toArray w (λe w'=>e= .returned (.int .i64 (nU n))∧w'=w):=by
 refine calls (n:=6) func387 rfl ntmps387 rfl ?_;refine cF ?_;intro b a;exact⟨rfl,a⟩
theorem kC {α:Type} {l:List α} {k:Nat} {a:α} (h:l[k]? = some a):l.take (k+1)=l.take k++[a]:=by rw[fR,h];rfl
theorem Td {P:Program} {n:Nat} {c:Code} {Q:cq} {l:Fr} {H:World→Prop} (h: ∀w,H w→dc P n c Q l (λx=>x=w)):dc P n c Q l H:=
 λw b a d=>h w b w rfl a d
theorem Te (w:World) (F:Nat→Prop) (A:Option Addr) (n c:Nat) (g:List Int) (f:Rd bT w F A n c g) (O:n≤1000000):
 Calls prog 326 [.slice A n c].toArray w (il bT w (kc g)):=by
 have j:=f.len
 have P:=f.cap
 refine aV func326 ntmps326 ?_;refine bH ?_;refine aj (λo=>?_) (λo=>?_);refine ah ?_;intro Q r R;refine al ?_;intro s a;have u:g=[]:=iC aa
 rw[kc,aw u];have y:=Rd.hp (E:=bT) (L:=[-1]) a Has.head rfl aZ
 exact⟨_,_,_,rfl,a.ext,y.dC (λk b=>by rw[b];exact r)⟩;refine ah ?_;refine jZ 3 1 ?_;refine bp ?_;obtain⟨m,z⟩ : ∃m,m=min n 8:=⟨_,rfl⟩;refine fz 0 m dL rfl rfl (.inr ⟨rfl,rfl⟩) (.inl ⟨_,_,rfl,rfl,aa⟩) aa aa ?_;have i:=f.cut (p:=0) (q:=m) aa aa
 generalize B: (if c=0 then A else A.map (·.add (0*1)))=C
 rw[show bT.sz=1 from rfl,B] at i
 rw[kr,kr] at *
 rw[nf] at i
 have D: (g.take m).length=m:=by rw[dl];omega
 have G:kc g=(g.take m).map nU:=by
  rw[kc,ag (λe=>by rw[e] at j;simp at j;omega)];congr 1
  rw[z];by_cases h:n≤8
  rw[iG h,ev aa,ev aa];rw[Nat.min_eq_right aa]
 refine ay ?_;refine b2 (ι:=Nat × Value) (λt=>[(3,t.2),(14,.slice C m c),(15,.int .i64 (m:Int)),(16,.int .i64 (t.1 :Int))]) (λt=>af w [] [own 3 1 t.2 t.1 (bT.all (((g.take m).take t.1).map nU))]) (λt=>t.1≤m) (λt=>m - t.1) ?_ ?_;exact λw' d=>⟨(0,.slice none 0 0),bP _,(cj rfl rfl rfl rfl),d⟩
 rintro⟨k,v⟩ b;dsimp only at b ⊢
 refine al ?_;refine aj (λH=>?_) (λH=>?_);obtain⟨x,l⟩ : ∃x,(g.take m)[k]? = some x:=⟨(g.take m)[k]'aa,bE _⟩;obtain⟨bY,S,_,I⟩:=i.at_ l;refine al ?_;refine bC (q:=k) dL rfl rfl rfl bv aa aa ?_;refine a_ bN rfl rfl (λw' d=>d.cu (I 0 _ rfl) av) ?_;refine al ?_;refine jj rfl Pm rfl (λw' _=>Tc w' x) ?_;refine ar ?_;intro T U V;refine gx dL rfl rfl rfl bj (λ_=>by exact cA) rfl (io rfl) (by simp only[maxLen];omega) aa (λJ W=>?_);refine aK ?_;refine bi (k+1,J) bm bm (cj rfl rfl rfl rfl) (λw' d=>?_);dsimp only;rw[kC l,fQ,lM,List.map_nil,bA.hn bT];exact d;have K:k=m:=by omega
 subst K;refine bH ?_;intro s a;rw[G];rw[ev aa] at a
 obtain⟨X,Y,M,N⟩:=Rd.gf (E:=bT) (a.has Has.head) (by rw[cB];exact D);exact⟨_,_,_,aU _ M,a.ext,N.dC (λk b=>by
  rcases ej k w.heap.size with h | h
  have:=a.ek k (by rw[fq];exact cZ.2 (.inl (jb.2 b))) h
  cases this
  exact h)⟩
theorem Tf (g:List Int): (kc g).length≤8:=by
 unfold kc;split
 simp
 rw[cB,dl];omega
theorem BB (gs:List (List Int)): (fy gs).length≤32:=by
 unfold fy;split
 simp
 rw[cB,dl];omega
theorem Tg (gs:List (List Int)): ∀g∈fy gs,1≤g.length∧g.length≤8:=by
 intro g a;have b: ∀x:List Int,1≤(kc x).length:=λx=>by
  unfold kc;split
  simp
  rename_i h;have:x.length≠0:=λe=>h (iC e)
  rw[cB,dl];omega
 unfold fy at a
 split at a
 rw[eb.1 a];simp
 obtain⟨x,_,rfl⟩:=dH.1 a;exact⟨b x,Tf x⟩
theorem BC (w:World) (F:Nat→Prop) (A:Option Addr) (n c:Nat) (gs:List (List Int)) (r:d9 w F A n c gs) (Zq:n≤1000000) (P: ∀g∈gs,g.length≤1000000):
 Calls prog 234 [.slice A n c].toArray w (s7 w (fy gs)):=by
 have D:=r.len
 have Zr:=r.xx
 refine aV func234 ntmps234 ?_;refine bH ?_;refine aj (λu=>?_) (λu=>?_);refine ah ?_;intro G Q Zs;refine ar ?_;intro Zt R Zu;refine al ?_;intro T d;have j:gs=[]:=iC aa
 rw[fy,aw j];have l:=Rd.hp (E:=bT) (L:=[-1]) d (Has.tail Has.head) rfl aZ
 have U:=Rd.hp (E:=gI) (L:=[⟨some ⟨G,0,none⟩,1,1⟩]) d Has.head rfl (by show 1≤maxLen;decide)
 refine⟨_,_,_,rfl,d.ext,[⟨some ⟨G,0,none⟩,1,1⟩],U.dC (λk a=>by rw[a];exact R),rfl,λk s g y j=>?_⟩;cases k with
 | zero=>
  simp only[qJ,dA] at y j
  subst y;subst j
  exact l.dC (λk a=>by rw[a];exact Q)
 | succ k=>simp at y
 refine ah ?_;refine jZ 73 1 ?_;refine bp ?_;obtain⟨m,V⟩ : ∃m,m=min n 32:=⟨_,rfl⟩;refine fz 0 m kv rfl rfl (.inr ⟨rfl,rfl⟩) (.inl ⟨_,_,rfl,rfl,aa⟩) aa aa ?_;have z:=r.cut (p:=0) (q:=m) aa aa
 generalize Zv: (if c=0 then A else A.map (·.add (0*1)))=W at z
 rw[kr,kr] at *
 rw[nf] at z
 have Zw: (gs.take m).length=m:=by rw[dl];omega
 have X:fy gs=(gs.take m).map kc:=by
  rw[fy,ag (λe=>by rw[e] at D;simp at D;omega)];congr 1
  rw[V];by_cases h:n≤32
  rw[iG h,ev aa,ev aa];rw[Nat.min_eq_right aa]
 have Y:=z.hI
 refine ay ?_;refine b2 (ι:=Nat × Value × List l9) (λt=>[(3,t.2.1),(15,.slice W m c),(16,.int .i64 (m:Int)),(17,.int .i64 (t.1 :Int))]) (λt=>kb w t.2.1 t.2.2 (((gs.take m).take t.1).map kc)) (λt=>t.1≤m∧t.2.2.length=t.1) (λt=>m - t.1) ?_ ?_;exact λw' b=>⟨(0,.slice none 0 0,[]),⟨bP _,rfl⟩,(cj rfl rfl rfl rfl),kb.nil b⟩
 rintro⟨k,v,f⟩ ⟨a,H⟩;dsimp only at a H ⊢
 refine Td λI o=>?_
 obtain⟨Z,J,Za,Zx,Zy⟩:=id o;generalize B:aB [own 73 1 v f.length (gI.all f)]=S at *
 have Zz:=J.size
 refine cH (H':=af I S [own 73 1 v f.length (gI.all f)]) ?_ (Sub.refl _) (λx i=>i▸Z);have Zb:=Y.ext J av
 have K: ∀k,k<w.heap.size→k∉S:=λk a C=>by have:=Za k C;omega
 refine al ?_;refine aj (λZc=>?_) (λZc=>?_);obtain⟨x,i⟩ : ∃x,(gs.take m)[k]? = some x:=⟨(gs.take m)[k]'aa,bE _⟩;obtain⟨bY,Zd,p,q,ZA,Ze,Zf,l⟩:=Zb.at_ i;have ZB:=l.len
 have ZC:=P x (iE (da i))
 refine al ?_;refine bC (q:=k) kv rfl rfl rfl bv aa aa ?_;refine a_ im rfl rfl (λw' b=>b.cu Zf (by rw[block_add];exact K _ Ze.2)) ?_;refine al ?_;refine wP rfl OS rfl (λw' b=>Te w' _ Zd p q x (l.ext b.ext (λk a=>K k a.2)) aa) (λZD Zg Zh Zi Zj M Zk ZE N O=>?_);have ZF:=O.len
 have Zl:Ext S I Zg:=M.ext.dW Zk
 have ZG:=M.ext.size
 refine ar ?_;intro ZH ZI ZJ;refine gx kv rfl rfl rfl bj (λ_=>by exact cA) rfl (io rfl) (by simp only[maxLen];omega) aa (λZm ZK=>?_);refine aK ?_;refine bi (k+1,Zm,f++[⟨Zh,Zi,Zj⟩]) ⟨by dsimp only;omega,by simp[H]⟩ bm (cj rfl rfl rfl rfl) (λw' b=>?_);dsimp only;rw[kC i,fQ,lM,List.map_nil];rw[B] at b N
 exact kb.step B o Zl b (O.dC (λk a=>⟨aa,λC=>by have:=N k C;omega⟩));have Zn:k=m:=by omega
 subst Zn;refine bH ?_;intro T d;rw[X];rw[ev aa] at o
 subst B;obtain⟨ZL,ZM,Zo,Zp,u⟩:=kb.ret (kb.later o d);exact⟨_,_,_,aU _ Zo,Zp,u⟩
theorem H6 (gs:List (List Int)): ∀g∈fy gs,∃y t,g=y::t∧ -1≤y∧y≤65535:=by
 have c: ∀x:List Int,∃y t,kc x=y::t∧ -1≤y∧y≤65535:=λx=>by
  unfold kc;split
  exact⟨-1,[],rfl,aa,aa⟩;rename_i h;cases x with
  | nil=>exact absurd rfl h
  | cons a x=>exact⟨nU a,_,rfl,by unfold nU;omega,by unfold nU;omega⟩
 intro g b;unfold fy at b
 split at b
 rw[eb.1 b];exact⟨-1,[],rfl,aa,aa⟩
 obtain⟨x,_,rfl⟩:=dH.1 b;exact c x
def vA (g:List Int):Int:=g.headD (-1)
def mX (a:List (List Int)) (i:Int):Int:=if 0≤i∧i<(a.length:Int) then vA (a.getD i.toNat []) else -1
def pc (gs:List (List Int)) (i a:Int):Int:=if mX (fy gs) i= -1 then a else mX (fy gs) i
theorem Th {a:List (List Int)} {k:Nat} {y:Int} {t:List Int} (h:a[k]? = some (y::t)):mX a (k:Int)=y:=by
 have b:=(cK.1 h).1
 rw[mX,aw aa];simp[vA,List.getD,h]
theorem H7 (w:World) (F:Nat→Prop) (A:Option Addr) (n c:Nat) (gs:List (List Int)) (G:d9 w F A n c gs) (H:n≤1000000) (I: ∀g∈gs,g.length≤1000000) (i s:Int):
 Calls prog 175 [.slice A n c,.int .i64 i,.int .i64 s].toArray w (λe w'=>e= .returned (.int .i64 (pc gs i s))∧Ext [] w w'):=by
 refine aV func175 ntmps175 ?_;refine aK ?_;refine mM (R:=λu=>BA (fy gs) u) rfl Ab rfl (λw' a=>(BC w' F A n c gs (G.ext a.ext av) H I).mono (λe O h=>h.H5)) ?_;rintro u J v K L P Q ⟨S,T,c1,rfl,z⟩;have f:Ext [] w J:=K.ext.dW L
 have U:=z.len
 refine aJ ?_;refine aW 12 rfl (λj=>?_) (λj=>?_);have M:=aX j
 refine lV ?_;intro l b;exact⟨by rw[pc,aw (show mX (fy gs) i= -1 by rw[mX,ag aa])],f.dW (b.ext.mono (λx d _=>by simp[aB] at d))⟩;have M:=bd j
 refine aQ ?_;refine aW 18 rfl (λm=>?_) (λm=>?_);have N:=aX m
 refine hq ?_;intro l b;exact⟨by rw[pc,aw (show mX (fy gs) i= -1 by rw[mX,ag aa])],f.dW (b.ext.mono (λx d _=>by simp[aB] at d))⟩;have N:=bd m
 obtain⟨k,rfl⟩ : ∃k:Nat,i=k:=⟨i.toNat,aa⟩;obtain⟨g,o⟩ : ∃g,(fy gs)[k]? = some g:=⟨(fy gs)[k]'aa,bE _⟩;obtain⟨bY,X,p,q,V,_,B,C⟩:=z.at_ o;obtain⟨y,t,rfl,W,Y⟩:=H6 gs g (da o);have ai:=C.len
 simp only[eO] at ai
 obtain⟨Z,Za,_,D⟩:=C.at_ (k:=0) rfl;have E:=Th o
 refine ay ?_;refine bC (q:=k) kv rfl rfl rfl bv aa aa ?_;refine ar ?_;refine a_ im rfl rfl (λw' a=>a.cu B (by simp[aB])) ?_;refine ar ?_;refine bC (q:=0) dL rfl rfl rfl bv aa aa ?_;refine ar ?_;refine a_ bN rfl rfl (λw' a=>a.cu (D 0 _ rfl) (by simp[aB])) ?_;refine ay ?_;refine aj (λr=>?_) (λr=>?_);refine aJ ?_;intro l b;exact⟨by rw[pc,E,aw r],f.dW (b.ext.mono (λx d _=>by simp[aB] at d))⟩;refine al ?_;refine bC (q:=k) kv rfl rfl rfl bv aa aa ?_;refine a_ im rfl rfl (λw' a=>a.cu B (by simp[aB])) ?_;refine bC (q:=0) dL rfl rfl rfl bv aa aa ?_;refine a_ bN rfl rfl (λw' a=>a.cu (D 0 _ rfl) (by simp[aB])) ?_;refine ay ?_;intro l b;exact⟨by rw[pc,E,ag r],f.dW (b.ext.mono (λx d _=>by simp[aB] at d))⟩
def vB (gs:List (List Int)):List Int:=(fy gs).map (λg=>max 0 (vA g))
theorem Ti (w:World) (F:Nat→Prop) (A:Option Addr) (n c:Nat) (gs:List (List Int)) (r:d9 w F A n c gs) (s:n≤1000000) (x: ∀g∈gs,g.length≤1000000):
 Calls prog 235 [.slice A n c].toArray w (il bT w (vB gs)):=by
 have L:=BB gs
 refine aV func235 ntmps235 ?_;refine al ?_;refine jZ 3 1 ?_;refine aK ?_;refine mM (R:=λj=>BA (fy gs) j) rfl Ab rfl (λw' a=>(BC w' F A n c gs (r.ext a.ext av) s x).mono (λe M h=>h.H5)) ?_;rintro j f v z B N O ⟨C,b,c1,rfl,l⟩;have m:Ext [] w f:=z.ext.dW B
 have P:=l.len
 have D:aB [own 3 1 (.slice none 0 0) 0 []]=[]:=by simp[aB,own,Value.ownBlock]
 rw[D];refine ay ?_;refine b2 (ι:=Nat × Value) (λt=>[(3,t.2),(7,.slice C b c1),(8,.int .i64 (b:Int)),(9,.int .i64 (t.1 :Int))]) (λt=>af f [] [own 3 1 t.2 t.1 (bT.all (((fy gs).take t.1).map (λg=>max 0 (vA g))))]) (λt=>t.1≤b) (λt=>b - t.1) ?_ ?_;exact λw' a=>⟨(0,.slice none 0 0),bP _,(cj rfl rfl rfl rfl),a⟩
 rintro⟨k,u⟩ E;dsimp only at E ⊢
 refine al ?_;refine aj (λG=>?_) (λG=>?_);obtain⟨g,d⟩ : ∃g,(fy gs)[k]? = some g:=⟨(fy gs)[k]'aa,bE _⟩;obtain⟨bY,X,p,q,Q,_,H,o⟩:=l.at_ d;obtain⟨y,t,rfl,S,T⟩:=H6 gs g (da d);have ai:=o.len
 simp only[eO] at ai
 obtain⟨U,V,_,I⟩:=o.at_ (k:=0) rfl;refine al ?_;refine bC (q:=k) kv rfl rfl rfl bv aa aa ?_;refine a_ im rfl rfl (λw' a=>a.cu H av) ?_;refine al ?_;refine bC (q:=0) dL rfl rfl rfl bv aa aa ?_;refine a_ bN rfl rfl (λw' a=>a.cu (I 0 _ rfl) av) ?_;refine aq ?_;intro W Y Z;refine gx dL rfl rfl rfl bj (λ_=>by exact cA) rfl (io rfl) (by simp only[maxLen];omega) aa (λJ Za=>?_);refine aK ?_;refine bi (k+1,J) bm bm (cj rfl rfl rfl rfl) (λw' a=>?_);dsimp only;rw[kC d,fQ,lM,List.map_nil,bA.hn bT];exact a;have K:k=b:=by omega
 subst K;rw[ev aa];refine bH ?_;intro Zb i;refine il.gf (m.dW i.ext) (i.has Has.head) (by rw[vB,cB];omega) (λg d=>?_);have Zc:=m.size
 rcases ej g f.heap.size with h | h
 exact absurd (i.ek g (by rw[fq];exact cZ.2 (.inl (jb.2 d))) h) av;omega
structure iV where
 di:Int
 fn:Int
 an:Int
 aM:Int
 fl:Int
deriving DecidableEq
abbrev tw (a:iV):Value:= .agg [.int .i64 a.di,.int .i64 a.fn,.int .i64 a.an,.int .i64 a.aM,.int .i64 a.fl].toArray
abbrev ql (k n:Int):Value:= .agg [.int .i64 k,.int .i64 n].toArray
theorem tx {z:Int} (a:0≤z) (b:z<9223372036854775808):IntKind.i64.wrap z=z:=by simp[IntKind.wrap,IntKind.bits,IntKind.signed];omega
def mY (gs:List (List Int)):Prop:=gs.length≤32∧ ∀g∈gs,1≤g.length∧g.length≤8∧ ∀x∈g,-1≤x∧x≤65535
def v0 (g:List Int):Int:=max 0 (g.headD 0)
def nV (gs:List (List Int)) (i:Nat):Int:=match gs[i]? with | some g=>v0 g | none=>0
theorem mY.at_ {gs:List (List Int)} (h:mY gs) {i:Nat} {g:List Int} (b:gs[i]? = some g): ∃x t,g=x::t∧ -1≤x∧x≤65535∧t.length≤7:=by
 have a:=h.2 g (da b)
 cases g with
 | nil=>exact absurd a.1 av
 | cons x t=>exact⟨x,t,rfl,(a.2.2 x av).1,(a.2.2 x av).2,by have:=a.2.1;simp at this;omega⟩
theorem Tj {gs:List (List Int)} (h:mY gs) (i:Nat):0≤nV gs i∧nV gs i≤65535:=by
 unfold nV;cases a:gs[i]? with
 | none=>simp
 | some g=>
  obtain⟨x,t,rfl,b,c,_⟩:=h.at_ a;simp only[v0,List.headD_cons];omega
theorem BD (w:World) (F:Nat→Prop) (A:Option Addr) (n c:Nat) (gs:List (List Int)) (h:d9 w F A n c gs) (m:mY gs) (i:Nat) (hi:i≤1000):
 Calls prog 394 [.slice A n c,.int .i64 (i:Int)].toArray w (λe w'=>e= .returned (.int .i64 (nV gs i))∧Ext [] w w'):=by
 have u:=h.len
 refine aV func394 ntmps394 ?_;refine bH ?_;refine aW 9 rfl (λb=>?_) (λb=>?_);have o:=aX b
 refine eR ?_;intro r d;exact⟨by rw[nV,kq aa],d.ext⟩;have o:=bd b
 obtain⟨g,f⟩ : ∃g,gs[i]? = some g:=⟨gs[i]'aa,bE _⟩;obtain⟨bY,X,p,q,v,_,j,l⟩:=h.at_ f;obtain⟨y,t,rfl,x,z,B⟩:=m.at_ f;have ai:=l.len
 simp only[eO] at ai
 obtain⟨C,D,_,s⟩:=l.at_ (k:=0) rfl;refine ay ?_;refine bC (q:=i) kv rfl rfl rfl bv aa aa ?_;refine ar ?_;refine a_ im rfl rfl (λw' a=>a.cu j (by simp[aB])) ?_;refine aC ?_;refine fA rfl ((cg aa)) ?_;refine al ?_;refine bC (q:=i) kv rfl rfl rfl bv aa aa ?_;refine a_ im rfl rfl (λw' a=>a.cu j (by simp[aB])) ?_;refine bC (q:=0) dL rfl rfl rfl bv aa aa ?_;refine a_ bN rfl rfl (λw' a=>a.cu (s 0 _ rfl) (by simp[aB])) ?_;refine al ?_;intro r d;exact⟨by rw[nV,f];rfl,d.ext⟩
end Go.Proofs.YtlgnfdodnhokjaaGreatDoor.Mq.ct
