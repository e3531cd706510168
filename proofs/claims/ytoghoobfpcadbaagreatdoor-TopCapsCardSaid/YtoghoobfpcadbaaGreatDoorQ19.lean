/- part 19 of the proof -/
import Derived.Test.YtoghoobfpcadbaaGreatDoorQ09
import Derived.Shelf.GgClosure.StringsIndexFuncTop
import Derived.Laws.RangeAny
namespace Go.Proofs.YtoghoobfpcadbaaGreatDoor.Mq.cr
open Go Go.RowKit Go.Proofs Tryz
theorem qe: ∀(l:List UInt8) (c:UInt8),(c∉l∧Lib.indexByte l c= -1)∨ ∃pre d,l=pre++c::d∧c∉pre∧Lib.indexByte l c=(pre.length:Int)
 | [],c=> .inl ⟨by simp,rfl⟩
 | b::l,c=>by
  by_cases a:b=c
  subst a;exact .inr ⟨[],l,rfl,by simp,by simp[Lib.indexByte]⟩;rcases qe l c with ⟨e,f⟩ | ⟨pre,d,e,f,g⟩
  exact .inl ⟨by simp[e,Ne.symm a],by simp[Lib.indexByte,a,f]⟩;refine .inr ⟨b::pre,d,by rw[e];rfl,by simp[f,Ne.symm a],?_⟩;have: ¬((pre.length:Int)= -1):=by omega
  simp[Lib.indexByte,a,g,this]
def hW (r:Nat):Bool:=decide (48≤r) && decide (r≤59)
def gp (s:List UInt8):Bool:=s.all (λc=>hW c.toNat)
def rl (n:Int) (c:UInt8):Int:=min (n*10+IntKind.u8.wrap ((c.toNat:Int) - 48)) 65535
def oY (s:List UInt8):Int:=if s=[] then -1 else s.foldl rl 0
def j5 (a:UInt8):Nat→List UInt8→List (List UInt8)
 | 0,_=>[]
 | m+1,s=>if a∈s then s.takeWhile (· ≠a)::j5 a m ((s.dropWhile (· ≠a)).drop 1) else [s]
theorem oZ {pre post:List UInt8} {sep:UInt8} (h:sep∉pre): (pre++sep::post).takeWhile (· ≠sep)=pre∧((pre++sep::post).dropWhile (· ≠sep)).drop 1=post:=by
 induction pre with
 | nil=>simp
 | cons c pre b=>
  have d:c≠sep:=λe=>h (by simp[e])
  have a:=b (λf=>h (by simp[f]))
  have ak:decide (c≠sep)=true:=b5 d
  rw[mq,List.takeWhile_cons_of_pos (p:=λx=>decide (x≠sep)) ak,List.dropWhile_cons_of_pos (p:=λx=>decide (x≠sep)) ak,a.1];exact⟨rfl,a.2⟩
theorem Sl {pre post:List UInt8} {a:UInt8} (h:a∉pre) (m:Nat):j5 a (m+1) (pre++a::post)=pre::j5 a m post:=by
 rw[j5,ay av,(oZ h).1,(oZ h).2]
theorem Sm {s:List UInt8} {a:UInt8} (h:a∉s) (m:Nat):j5 a (m+1) s=[s]:=by
 rw[j5,ag h]
theorem vm (a:UInt8): ∀(m:Nat) (s:List UInt8),(j5 a m s).length≤m
 | 0,_=>by simp[j5]
 | m+1,s=>by
  rw[j5];split
  have:=vm a m ((s.dropWhile (· ≠a)).drop 1);simp only[eK];omega
  simp
def j6 (p:List UInt8):List Int:=(j5 58 8 p).map oY
def vn (s:List UInt8):List (List Int):=(j5 59 32 s).map j6
theorem Hm (z:Int):0≤IntKind.u8.wrap z∧IntKind.u8.wrap z≤255:=by
 simp[IntKind.wrap,IntKind.bits,IntKind.signed];omega
theorem Hn: ∀(s:List UInt8) (n:Int),0≤n∧n≤65535→0≤s.foldl rl n∧s.foldl rl n≤65535
 | [],n,h=>h
 | c::s,n,h=>by
  rw[rS];refine Hn s _ ?_;have:=Hm ((c.toNat:Int) - 48)
  unfold rl;omega
theorem x4:ad prog 421:=ad.of func421 ab ab
theorem Be:ad prog 442:=ad.of func442 ab ab
theorem Bf:ad prog 413:=ad.of func413 ab ab
theorem x5 (w:World) (s:List UInt8) (c:UInt8):
 Calls prog 421 [.string (bs s),.int .u8 (c.toNat:Int)].toArray w (λe w'=>e= .returned (.int .i64 (Lib.indexByte s c))∧w'=w):=by
 refine calls (n:=8) func421 rfl ntmps421 rfl ?_;refine aJ ?_;refine w7 rfl rfl (λa _=>FC func450 ab ab ab ab s c a) ?_;refine ax ?_;intro d b;exact⟨rfl,b⟩
theorem Bg (w:World) (s:List UInt8) (c:UInt8):
 Calls prog 442 [.string (bs s),.string (bs [c])].toArray w (λe w'=>e= .returned (.int .i64 (Lib.indexByte s c))∧w'=w):=by
 refine calls (n:=143) func442 rfl ntmps442 rfl ?_;refine eM ?_;refine bY rfl rfl av ?_;refine ar ?_;refine bY rfl rfl av ?_;refine ar ?_;refine bY rfl rfl av ?_;refine ar ?_;refine ig rfl rfl av rfl ?_;refine ah ?_;refine aj (λb=>?_) (λb=>?_);refine aJ ?_;intro d a;refine⟨?_,a⟩;rw[←b];simp[Lib.indexByte]
 refine aD ?_;refine eA rfl (av) ?_;refine aS ?_;refine ii (q:=0) underlying9 rfl rfl rfl bb (rfl: [c][0]? = some c) ?_;refine je rfl x4 rfl (λw' _=>x5 w' s c) ?_;refine aD ?_;intro d a;exact⟨rfl,a⟩
def iS (s:List UInt8) (c:UInt8):Value:=if c∈s then .tuple #[.string (bs (s.takeWhile (· ≠c))),.string (bs ((s.dropWhile (· ≠c)).drop 1)),.bool true] else .tuple #[.string (bs s),.string (bs []),.bool false]
theorem Bh (w:World) (s:List UInt8) (c:UInt8) (l:s.length≤1000000):
 Calls prog 413 [.string (bs s),.string (bs [c])].toArray w (λe w'=>e= .returned (iS s c)∧Ext [] w w'):=by
 refine aW func413 ntmps413 ?_;refine bB ?_;refine je rfl Be rfl (λw' _=>Bg w' s c) ?_;refine aJ ?_;rcases qe s c with ⟨j,a⟩ | ⟨pre,f,b,g,a⟩
 rw[a];refine bI ?_;intro k d;exact⟨by rw[iS,ag j],d.ext⟩;rw[a];refine eA rfl (av) ?_;have m:pre.length+1≤s.length:=by rw[b];simp
 refine ar ?_;refine bF [0,1,2,3,4,5,6,7,8,9,10,11] 0 [[]] ?_;refine aq ?_;refine aI rfl (λh i=>(pC pre.length underlying9 rfl rfl rfl bb aa aC)) ?_;refine aS ?_;refine aI rfl (λh i=>(gu (r:=((pre.length+1 :Nat):Int)) rfl rfl rfl (by rw[wrap64 (by simp;omega) (by simp;omega)];simp) aC)) ?_;refine aI rfl (λh i=>(pB (pre.length+1) underlying9 rfl rfl rfl bb aa aC)) ?_;refine aJ ?_;intro k d;refine⟨?_,d.ext⟩;rw[iS,ay (by rw[b];simp),b,(oZ g).1,(oZ g).2,r0,show pre++c::f=(pre++[c])++f by simp,List.drop_left'] <;> simp
theorem Bi (w:World) (s:List UInt8) (c:UInt8) (a:s.length≤1000000):
 Calls prog 351 [.string (bs s),.string (bs [c])].toArray w (λe w'=>e= .returned (iS s c)∧Ext [] w w'):=by
 refine aW func351 ntmps351 ?_;refine bp ?_;refine ao rfl Bf rfl (λw' _=>Bh w' s c a) ?_;obtain⟨x,y,b,d⟩ : ∃x y b,iS s c= .tuple #[.string x,.string y,.bool b]:=by unfold iS;split <;> exact⟨_,_,_,rfl⟩
 rw[d];refine aR ?_;intro g f;exact⟨rfl,f.ext⟩
theorem Sn (w:World) (s:List UInt8) (l:s.length≤1000000):
 Calls prog 313 [.string (bs s)].toArray w (λe w'=>e= .returned (.int .i64 (oY s))∧w'=w):=by
 refine calls (n:=23) func313 rfl ntmps313 rfl ?_;refine bB ?_;refine aj (λa=>?_) (λa=>?_);refine aL ?_;intro g b;exact⟨by rw[oY,ay (by simpa using a)],b⟩;refine b_ ?_;refine b1 (ι:=Nat) (λk=>[(0,.string (bs s)),(3,.int .i64 ((s.take k).foldl rl 0)),(4,.int .i64 (k:Int))]) (λ_ x=>x=w) (λk=>k≤s.length) (λk=>s.length - k) ?_ ?_;exact λw' d=>⟨0,bP _,(ef rfl rfl rfl),d⟩
 rintro k m;refine aJ ?_;refine aj (λh=>?_) (λh=>?_);obtain⟨c,f⟩ : ∃c,s[k]? = some c:=⟨s[k]'aa,bG _⟩;have o:=Hn (s.take k) 0 aa
 have p:=Hm ((c.toNat:Int) - 48)
 have i: (s.take (k+1)).foldl rl 0=min ((s.take k).foldl rl 0*10+IntKind.u8.wrap ((c.toNat:Int) - 48)) 65535:=by
  rw[gk,f,pt,List.foldl_append];rfl
 refine al ?_;refine k1 rfl rfl rfl (wrap64 aa aa) ?_;refine aq ?_;refine ii (q:=k) underlying9 rfl rfl rfl aa f ?_;refine gN rfl rfl rfl rfl ?_;refine bB ?_;refine bg (k+1) aa aa (Sub.cons bb (Sub.cons ?_ (Sub.cons bb Sub.nil))) (λw' d=>d);rw[i];simp[look]
 have j:s.take k=s:=ez aa
 rw[j];refine bI ?_;intro g b;exact⟨by rw[oY,ag (by simpa using a)],b⟩
theorem x6 (w:World) (f:FuncId) (cap:Array Value) (z:ad prog f) (b:List (List UInt8)→World→Prop) (fv:List UInt8) (N:fv.length≤1000000)
 (m:Nat) (O:m≤1000) (A: ∀a part w',b a w'→a.length<m→(part.length≤fv.length∧ ∀c∈part,c∈fv)→Calls prog f (#[]++[Value.string (bs part)].toArray++cap) w' (λe i=>e= .returned (.tuple #[])∧b (a++[part]) i))
 (p: ∀a w' i,b a w'→Ext [] w' i→b a i) (d:UInt8) (C:b [] w):
 Calls prog 310 [.string (bs fv),.string (bs [d]),.int .i64 (m:Int),.func (.func f) #[] cap].toArray w (λe w'=>e= .returned (.tuple #[])∧b (j5 d m fv) w'):=by
 refine calls (n:=30) func310 rfl ntmps310 rfl ?_;refine cL (H':=b []) ?_ (Sub.refl _) (λx p=>p▸C);refine al ?_;refine b1 (ι:=Nat × List UInt8 × List (List UInt8)) (λt=>[(0,.string (bs t.2.1)),(1,.string (bs [d])),(2,.int .i64 (m:Int)),(3,.func (.func f) #[] cap),(8,.int .i64 (t.1 :Int))]) (λt=>b t.2.2) (λt=>t.1≤m∧t.2.2.length=t.1∧(t.2.1.length≤fv.length∧ ∀c∈t.2.1,c∈fv)∧j5 d m fv=t.2.2++j5 d (m - t.1) t.2.1) (λt=>m - t.1) ?_ ?_;exact λw' g=>⟨(0,fv,[]),⟨bP _,rfl,⟨ch _,λc l=>l⟩,rfl⟩,(ea rfl rfl rfl rfl rfl),g⟩
 rintro⟨k,r,a⟩ ⟨D,E,o,h⟩;dsimp only at D E o h ⊢
 refine aL ?_;refine aj (λF=>?_) (λF=>?_);obtain⟨q,G⟩ : ∃q,m - k=q+1:=⟨m - k - 1,aa⟩;rw[G] at h
 refine aL ?_;refine sC (v:=iS r d) (H':=b a) rfl E4 rfl (λw' g=>?_) ?_;refine Calls.mono (Bi w' r d aa) ?_;rintro e i ⟨rfl,H⟩;exact⟨rfl,p a w' i g H⟩;rcases qe r d with ⟨B,I⟩ | ⟨pre,s,j,u,I⟩
 rw[iS,ag B];refine bI ?_;refine Ak (v:= .tuple #[]) (H':=b (a++[r])) rfl rfl z rfl (λw' g=>A a r w' g aa o) ?_;refine et ?_;intro J y;rw[Sm B] at h
 rw[h];exact⟨rfl,y⟩;have K:d∈r:=by rw[j];simp
 rw[iS,ay K];rw[j,(oZ u).1,(oZ u).2];have P:pre.length≤r.length∧s.length≤r.length:=by rw[j];simp;omega
 have L: ∀c∈pre,c∈fv:=λc l=>o.2 c (by rw[j];simp[l])
 have M: ∀c∈s,c∈fv:=λc l=>o.2 c (by rw[j];simp[l])
 refine bI ?_;refine Ak (v:= .tuple #[]) (H':=b (a++[pre])) rfl rfl z rfl (λw' g=>A a pre w' g aa ⟨aa,L⟩) ?_;refine oD ?_;rw[j,Sl u] at h
 refine bg (k+1,s,a++[pre]) ⟨by dsimp only;omega,by simp;omega,⟨by dsimp only;omega,M⟩,?_⟩ bm (ea rfl rfl rfl rfl rfl) (λw' g=>g);dsimp only;rw[h,show m - (k+1)=q by omega];simp
 refine ax ?_;intro J y;rw[show m - k=0 by omega,j5,fR] at h
 rw[h];exact⟨rfl,y⟩
def Bj:Shelf.Ren:=⟨λ| 15=>380 | 20=>428 | n=>n,λ| 0=>0 | 3=>3 | 4=>4 | 9=>9 | 21=>21 | 23=>396 | n=>n,λn=>n⟩
theorem Bk:LaysGw.n15 prog Bj where
 mixed:=by kernel_rfl
 f15:=func380.trans (aV some ab)
 f20:=func428.trans (aV some ab)
 t0:=underlying0
 a0:=isAgg0
 z0:=sizeOf0
 v0:=zeroValue0
 i0:=by kernel_rfl
 t3:=underlying3
 a3:=isAgg3
 z3:=sizeOf3
 v3:=zeroValue3
 i3:=by kernel_rfl
 t4:=underlying4
 a4:=isAgg4
 z4:=sizeOf4
 v4:=zeroValue4
 i4:=by kernel_rfl
 t9:=underlying9
 a9:=isAgg9
 z9:=sizeOf9
 v9:=zeroValue9
 i9:=by kernel_rfl
 t21:=underlying21
 a21:=isAgg21
 z21:=sizeOf21
 v21:=zeroValue21
 i21:=by kernel_rfl
 t23:=underlying396
 a23:=isAgg396
 z23:=sizeOf396
 v23:=zeroValue396
 i23:=by kernel_rfl
theorem So:ad prog 381:=ad.of func381 ab ab
theorem Sp (w:World) (r:Nat):
 Calls prog 381 [.int .i32 (r:Int)].toArray w (λe w'=>e= .returned (.bool (!hW r))∧w'=w):=by
 refine calls (n:=17) func381 rfl ntmps381 rfl ?_;refine aR ?_;refine aX 5 rfl (λf=>?_) (λf=>?_);have h:=a1 f
 refine aR ?_;refine aX 13 rfl (λb=>?_) (λb=>?_);have c:=a1 b
 refine aR ?_;intro d a;refine⟨?_,a⟩;have:hW r=false:=by simp[hW];omega
 rw[this,b5 aa];rfl
 have c:=bc b
 refine aL ?_;intro d a;exact absurd c aa;have h:=bc f
 refine al ?_;refine aX 9 rfl (λg=>?_) (λg=>?_);have i:=a1 g
 refine al ?_;refine aX 13 rfl (λb=>?_) (λb=>?_);have c:=a1 b
 refine aR ?_;intro d a;refine⟨?_,a⟩;by_cases j: (r:Int)=58
 have:hW r=true:=by simp[hW];omega
 rw[this,bO aa];rfl
 have:hW r=false:=by simp[hW];omega
 rw[this,b5 j];rfl
 have c:=bc b
 refine aL ?_;intro d a;have:hW r=true:=by simp[hW];omega
 exact⟨by rw[this];rfl,a⟩;have i:=bc g
 refine bB ?_;intro d a;have:hW r=true:=by simp[hW];omega
 exact⟨by rw[this];rfl,a⟩
theorem Ho (s:List UInt8): ∀(f pos:Nat),s.length≤f+pos→(Lib.idxFuncFrom (λr=> !hW r) true (bs s) f pos<0↔ ∀(j:Nat) (c:UInt8),pos≤j→s[j]? = some c→hW c.toNat=true)
 | 0,pos,h=>by
  constructor
  intro _ j c e a;have:=(cY.1 a).1
  omega
  intro _;simp[Lib.idxFuncFrom]
 | f+1,pos,h=>by
  unfold Lib.idxFuncFrom;rw[hH];by_cases ai:pos<s.length
  rw[ay ai];have g:pos<(bs s).size:=by rw[hH];exact ai
  have i: (bs s)[pos]'g=s[pos]:=by simp[bs,ByteArray.getElem_eq_getElem_data]
  by_cases l: (s[pos]).toNat<128
  have ak:=decode_ascii (bs s) pos g (by rw[i];exact l)
  rw[i] at ak
  rw[ak];dsimp only;by_cases d:hW (s[pos]).toNat=true
  rw[ag (by simp[d]),Ho s f (pos+1) aa];constructor
  intro b j c e a;by_cases m:j=pos
  subst m;rw[bG ai] at a
  simp only[dI] at a
  rw[←a];exact d
  exact b j c aa a;intro b j c e a;exact b j c aa a;rw[ay (by simp[d])];constructor
  intro n;omega
  intro b;exact absurd (b pos s[pos] (ch _) (bG ai)) d;have ak:=decode_high (bs s) pos g (by rw[i];omega)
  have k: ∀r,128≤r→hW r=false:=λr o=>by simp[hW];omega
  rw[ay (by simp[k _ ak.1])];constructor
  intro n;omega
  intro b;have:=b pos s[pos] (ch _) (bG ai)
  rw[k _ aa] at this
  cases this
  rw[ag ai];constructor
  intro _ j c e a;have:=(cY.1 a).1
  omega
  intro _;omega
theorem Sq (w:World) (s:List UInt8):
 Calls prog 309 [.string (bs s)].toArray w (λe w'=>e= .returned (.bool (gp s))∧Ext [] w w'):=by
 have d: ∀w',Calls prog 380 [.string (bs s),.func (.func 381) #[] #[]].toArray w' (λe a=>e= .returned (.int .i64 (Lib.idxFunc (λr=> !hW r) true (bs s)))∧Ext [] w' a):=λw'=>by
  refine Calls.mono (Any.strings_IndexFunc Bk 381 #[] (λargs w=>zf So args w) (λr=> !hW r) (bs s) w' (λW x _=>?_)) (λe a h=>⟨h.1,Ext.r8 h.2⟩);refine Calls.mono (Sp W x) (λe a h=>⟨h.1,0,?_⟩);rw[h.2];rfl
 have f:decide (Lib.idxFunc (λr=> !hW r) true (bs s)<0)=gp s:=by
  have:=Ho s s.length 0 aa
  rw[Lib.idxFunc,hH];rw[Bool.eq_iff_iff,decide_eq_true_iff,this,gp,iY];constructor
  intro h c b;obtain⟨j,g⟩:=qD b;exact h j c (bP _) g;intro h j c _ b;exact h c (dc b)
 refine aW func309 ntmps309 ?_;refine aL ?_;refine ao rfl E9 rfl (λw' _=>d w') ?_;refine al ?_;intro k i;exact⟨by rw[f],i.ext⟩
def bX:bx Int:=⟨λx=>[.int .i64 x],1,λ_=>rfl,λ_=>by repeat (first | exact aH.nil | refine aH.cons rfl ?_)⟩
structure l4 where
 A:Option Addr
 n:Nat
 c:Nat
def gF:bx l4:=⟨λs=>[.slice s.A s.n s.c],1,λ_=>rfl,λ_=>by repeat (first | exact aH.nil | refine aH.cons rfl ?_)⟩
theorem Sr {P:Program} {n:Nat} {ops:Array Oper} {Q:cq} {rest:List Oper} {l:Fr} {ι:Type} {H:ι→World→Prop} (h: ∀i,az P n ops Q rest l (H i)):az P n ops Q rest l (λw=> ∃i,H i w):=
 λw ⟨i,b⟩ a c=>h i w b a c
theorem Ss {P:Program} {n:Nat} {ops:Array Oper} {Q:cq} {rest:List Oper} {l:Fr} {H:World→Prop} (h: ∀w,H w→az P n ops Q rest l (λx=>x=w)):az P n ops Q rest l H:=
 λw b a c=>h w b w rfl a c
theorem St (b:World) (S:List Nat) (cs:List Chunk) (a:Nat) (v:Value) (L:List Int) (part:List UInt8) (ai:part.length≤1000000) (m:L.length≤1000) (w:World)
 (d:af b S (aE a [v] 122::own 3 1 v L.length (bX.all L)::cs) w):
 Calls prog 312 [.string (bs part),.pointer (some ⟨a,0,none⟩)].toArray w (λe w'=>e= .returned (.tuple #[])∧ ∃c,af b S (aE a [c] 122::own 3 1 c (L++[oY part]).length (bX.all (L++[oY part]))::cs) w'):=by
 refine calls (n:=8) func312 rfl ntmps312 rfl ?_;refine cL (H':=af b S (aE a [v] 122::own 3 1 v L.length (bX.all L)::cs)) ?_ (Sub.refl _) (λx f=>f▸d);refine bF [0,1,2] 3 [[(3,false,[]),(4,true,[]),(5,true,[])]] ?_;refine aq ?_;refine aI rfl (λo p=>(je rfl N4 rfl (λw' _=>Sn w' part ai) aC)) ?_;refine ah ?_;intro q r s;refine bV (λ_=>True) (λ_ h=> .inr (h.rem bv.head)) (λ_ h=>aT) ?_;refine aq ?_;refine gv dO rfl rfl rfl bi (λ_=>by exact er) rfl (im rfl) (by simp only[maxLen];omega) aa (λg t=>?_);refine ah ?_;refine iI (v:=g) (Has.tail Has.head) (λi j k u y z A=>?_);subst k;refine ax ?_;intro B l;refine⟨rfl,.slice i (L.length+1) j,?_⟩;rw[b8,bx.hk bX];exact l
def ed (w:World) (F:Nat→Prop) (A:Option Addr) (n c:Nat) (gs:List (List Int)):Prop:=
 ∃a:List l4,Rd gF w F A n c a∧a.length=gs.length∧ ∀(k:Nat) (s:l4) (g:List Int),a[k]? = some s→gs[k]? = some g→Rd bX w F s.A s.n s.c g
abbrev jI (c:Nat) (a:Value) (b:List l4):List Chunk:=[aE c [a] 156,own 122 1 a b.length (gF.all b)]
def rm (w:World) (b:Nat) (gs:List (List Int)) (w':World):Prop:=
 ∃d a,af w' (aA (jI b d a)) (jI b d a) w'∧Ext [] w w'∧(∀k∈aA (jI b d a),w.heap.size≤k)∧a.length=gs.length∧
  ∀(k:Nat) (s:l4) (g:List Int),a[k]? = some s→gs[k]? = some g→Rd bX w' (λk=>w.heap.size≤k∧k∉aA (jI b d a)) s.A s.n s.c g
theorem rm.ext {w b c:World} {d:Nat} {gs:List (List Int)} (h:rm w d gs b) (a:Ext [] b c):rm w d gs c:=by
 obtain⟨e,f,i,j,l,m,n⟩:=h;exact⟨e,f,(i.keep a).oq,j.dZ a,l,m,λk s g o p=>(n k s g o p).ext a av⟩
theorem Su (w:World) (b:Nat) (gs:List (List Int)) (part:List UInt8) (ai:part.length≤1000000) (X:gs.length≤1000) (d:World) (K:rm w b gs d):
 Calls prog 311 [.string (bs part),.pointer (some ⟨b,0,none⟩)].toArray d (λe w'=>e= .returned (.tuple #[])∧rm w b (gs++[j6 part]) w'):=by
 obtain⟨f,a,L,D,B,F,M⟩:=K;have Y:=vm 58 8 part
 refine calls (n:=11) func311 rfl ntmps311 rfl ?_;refine cL (H':=af d (aA (jI b f a)) (jI b f a)) ?_ (Sub.refl _) (λx m=>m▸L);generalize Z:aA (jI b f a)=S at *
 refine aq ?_;refine sb il rfl (λo Za Zb=>?_);refine al ?_;refine px 3 1 ?_;refine sC (v:= .tuple #[]) (H':=λw'=> ∃v,af d S (aE o [v] 122::own 3 1 v (j6 part).length (bX.all (j6 part))::jI b f a) w') rfl EZ rfl (λw' N=>?_) ?_
 ·refine x6 w' 312 #[.pointer (some ⟨o,0,none⟩)] N3 (λq w'=> ∃v,af d S (aE o [v] 122::own 3 1 v (List.map oY q).length (bX.all (List.map oY q))::jI b f a) w') part ai 8 aZ ?_ ?_ 58 ⟨.slice none 0 0,N.swap⟩
  ·rintro q p G ⟨v,C⟩ Zc ⟨Zd,_⟩
   rw[gf];exact St d S (jI b f a) o v (List.map oY q) p aa (by rw[cT];omega) G C
  ·rintro q G Ze ⟨v,C⟩ m
   exact⟨v,C.keep m⟩
 refine Sr λv=>?_
 refine iI (v:=v) (Has.tail Has.head) (λi j O Zf Zg Zh Zi=>?_);subst O;refine al ?_;intro Zj Zk Zl;refine gv kr rfl rfl rfl bi (λ_=>by exact ns) rfl (im rfl) (by simp only[maxLen];omega) aa (λP Zm=>?_);refine iI (v:=P) hL (λr t Q Zn Zo Zp Zq=>?_);subst Q;refine ah ?_;intro R z;have A:af d S (jI b (.slice r (a.length+1) t) (a++[⟨i,(j6 part).length,j⟩])) R:=by
  unfold jI;rw[b8,bx.hk gF];exact (z.rem bv.head).rem bv.head
 have H: ∀k,k∈aA (jI b (.slice r (a.length+1) t) (a++[⟨i,(j6 part).length,j⟩]))→k∈S∨d.heap.size≤k:=λk c=>by
  rcases e0 k d.heap.size with h | h
  ·exact .inl (A.ei k c h)
  ·exact .inr h
 have Zr:=D.size
 refine⟨rfl,.slice r (a.length+1) t,a++[⟨i,(j6 part).length,j⟩],A.oq,D.trans A.ext (λx m Zs=>absurd (B x m) aa),λk c=>?_,by simp[F],λk s g l u=>?_⟩
 ·rcases H k c with h | h
  ·exact B k h
  ·omega
 ·by_cases T:k<a.length
  ·rw[m8 T] at l
   rw[m8 aa] at u
   exact (((M k s g l u).hI aZ).ext A.ext (λk c=>c.1.2)).dJ (λk c=>⟨c.1.1,λy=>by
    rcases H k y with h | h
    ·exact c.1.2 h
    ·have:=c.2;omega⟩)
  ·have y:k=a.length:=by
    have:=(cY.1 l).1
    simp at this;omega
   subst y;rw[kY (ch _),m9] at l
   rw[kY aa,F,m9] at u
   simp only[qC,dI] at l u
   subst l;subst u
   obtain⟨Zt,Zu,U,V⟩:=Rd.ga (E:=bX) (z.has (Has.tail Has.head)) rfl;cases U
   have I:=z.nodup
   refine V.dJ (λk c=>⟨?_,λy=>?_⟩)
   ·have W:k∈aA [aE o [Value.slice i (j6 part).length j] 122,own 3 1 (Value.slice i (j6 part).length j) (j6 part).length (bX.all (j6 part)),aE b ([f].set 0 (Value.slice r (a.length+1) t)) 156,own 122 1 (Value.slice r (a.length+1) t) (a.length+1) (gF.all a++putAt (fa [Value.slice none 0 0] 1) (0*1) (Value.slice i (j6 part).length j).cells.toList)]:=by
     rw[fi,fi];exact db.2 (.inr (db.2 (.inl (i_.2 c))))
    rcases e0 k d.heap.size with h | h
    ·exact B k (z.ei k W h)
    ·omega
   ·rw[fi,fi,fS] at I
    have J:=I.2.1
    rw[fS] at J
    exact J.2.2 k (i_.2 c) k y rfl
def x7 (w:World) (s:List UInt8):Ending→World→Prop:=λe w'=>
 if gp s=true then ∃A n c,e= .returned (.tuple #[.slice A n c,.bool true])∧Ext [] w w'∧ed w' (λk=>w.heap.size≤k) A n c (vn s)
 else e= .returned (.tuple #[.slice none 0 0,.bool false])∧Ext [] w w'
theorem Sv (w:World) (s:List UInt8) (u:s.length≤1000000):
 Calls prog 218 [.string (bs s)].toArray w (x7 w s):=by
 have L:=vm 59 32 s
 refine aW func218 ntmps218 ?_;refine aR ?_;refine ao rfl N1 rfl (λw' _=>Sq w' s) ?_;refine ah ?_;refine b6 rfl (λi=>?_) (λi=>?_)
 ·refine aJ ?_
  intro y d;rw[x7,ag (by simpa using i)];exact⟨rfl,d.ext⟩
 ·have z:gp s=true:=by simpa using i
  refine aS ?_;refine sb L0 rfl (λc M N=>?_);refine al ?_;refine px 122 1 ?_;refine sC (v:= .tuple #[]) (H':=rm w c (vn s)) rfl EZ rfl (λw' l=>?_) ?_
  ·refine x6 w' 311 #[.pointer (some ⟨c,0,none⟩)] N2 (λh w'=>rm w c (List.map j6 h) w') s u 32 aZ ?_ ?_ 59 ?_
   ·rintro h p m e O ⟨P,_⟩
    rw[gf];exact Su w c (List.map j6 h) p aa (by rw[cT];omega) m e
   ·rintro h m Q e f
    exact e.ext f
   ·refine⟨.slice none 0 0,[],l.swap.oq,l.ext,λk a=>?_,rfl,by simp⟩
    rw[fi,fi] at a
    simp[aE,own,aA,Value.ownBlock] at a
    omega
  refine Ss λA e=>?_
  obtain⟨j,b,B,n,C,D,F⟩:=e;refine hg (H':=af A (aA (jI c j b)) (jI c j b)) ?_ (Sub.refl _) (λx f=>f▸B);refine iI (v:=j) (Has.tail Has.head) (λo q G R S T U=>?_);subst G;refine bp ?_;intro y d;rw[x7,ay z];obtain⟨V,W,H,r⟩:=Rd.ga (E:=gF) (d.has (Has.tail Has.head)) rfl;cases H
  have X:=n.size
  have t: ∀k∈aA (jI c (.slice o b.length q) b),w.heap.size≤k:=C
  rw[show b.length=b.length from rfl] at r
  refine⟨o,b.length,q,rfl,n.trans d.ext (λx f Y=>absurd (t x f) aa),b,r.dJ (λk a=>t k (by rw[fi,fi];exact db.2 (.inr (db.2 (.inl (i_.2 a)))))),D,λk I g J K=>((F k I g J K).ext d.ext (λk a=>a.2)).dJ (λk a=>a.1)⟩
theorem ed.len {w:World} {F:Nat→Prop} {A:Option Addr} {n c:Nat} {gs:List (List Int)} (h:ed w F A n c gs):gs.length=n:=by
 obtain⟨d,a,b,_⟩:=h;rw[←b];exact a.len
theorem ed.xm {w:World} {F:Nat→Prop} {A:Option Addr} {n c:Nat} {gs:List (List Int)} (h:ed w F A n c gs):n≤c∧c≤maxLen:=by
 obtain⟨b,a,d,_⟩:=h;exact⟨a.cap,a.max⟩
theorem ed.ext {S:List Nat} {w w':World} {F:Nat→Prop} {A:Option Addr} {n c:Nat} {gs:List (List Int)} (h:ed w F A n c gs) (a:Ext S w w') (b: ∀k,F k→k∉S):ed w' F A n c gs:=by
 obtain⟨d,e,f,i⟩:=h;exact⟨d,e.ext a b,f,λk s g j l=>(i k s g j l).ext a b⟩
theorem ed.dJ {w:World} {F F':Nat→Prop} {A:Option Addr} {n c:Nat} {gs:List (List Int)} (h:ed w F A n c gs) (a: ∀k,F k→F' k):ed w F' A n c gs:=by
 obtain⟨b,d,e,f⟩:=h;exact⟨b,d.dJ a,e,λk s g i j=>(f k s g i j).dJ a⟩
theorem ed.hI {w:World} {F:Nat→Prop} {A:Option Addr} {n c:Nat} {gs:List (List Int)} (h:ed w F A n c gs):ed w (λk=>F k∧k<w.heap.size) A n c gs:=by
 obtain⟨a,b,d,e⟩:=h;exact⟨a,b.hI aZ,d,λk s g f i=>(e k s g f i).hI aZ⟩
theorem ed.at_ {w:World} {F:Nat→Prop} {A:Option Addr} {n c:Nat} {gs:List (List Int)} (h:ed w F A n c gs) {k:Nat} {g:List Int} (a:gs[k]? = some g):
 ∃b2 b m d,A=some b2∧F b2.block∧w.cell? (b2.add (k*1))=some (.slice b m d)∧Rd bX w F b m d g:=by
 obtain⟨e,i,q,j⟩:=h;have r:=(cY.1 a).1
 obtain⟨s,f⟩ : ∃s,e[k]? = some s:=⟨e[k]'aa,bG _⟩;obtain⟨b2,l,o,p⟩:=i.at_ f;refine⟨b2,s.A,s.n,s.c,l,o,?_,j k s g f a⟩;have:=p 0 (.slice s.A s.n s.c) rfl
 simpa [gF,Addr.add] using this
theorem ed.cut {w:World} {F:Nat→Prop} {A:Option Addr} {n c:Nat} {gs:List (List Int)} (h:ed w F A n c gs) {p q:Nat} (ai:p≤q) (d:q≤n):ed w F (if c=p then A else A.map (·.add (p*1))) (q - p) (c - p) ((gs.take q).drop p):=by
 obtain⟨e,f,i,j⟩:=h;refine⟨(e.take q).drop p,f.cut ai d,by simp[i],λk s g a b=>?_⟩;rw[mu,iB] at a b
 split at a
 rename_i l;rw[ay l] at b
 exact j _ s g a b;cases a
theorem ed.nil (w:World) (F:Nat→Prop):ed w F none 0 0 []:=⟨[],Rd.nil gF w F 0 aZ none,rfl,by simp⟩
def sT (w:World) (gs:List (List Int)):Ending→World→Prop:=λe w'=> ∃A n c,e= .returned (.slice A n c)∧Ext [] w w'∧ed w' (λk=>w.heap.size≤k) A n c gs
def Bl (gs:List (List Int)) (w:World) (v:Value) (w':World):Prop:= ∃A n c,v= .slice A n c∧ed w' (λk=>w.heap.size≤k) A n c gs
theorem sT.Hp {w w':World} {gs:List (List Int)} {e:Ending} (h:sT w gs e w'):nn (Bl gs w) w e w':=by
 obtain⟨A,n,c,rfl,a,b⟩:=h;exact⟨_,rfl,a,A,n,c,rfl,b⟩
def j7 (w:World) (v:Value) (a:List l4) (gs:List (List Int)) (w':World):Prop:=
 af w' (aA [own 122 1 v a.length (gF.all a)]) [own 122 1 v a.length (gF.all a)] w'∧Ext [] w w'∧(∀k∈aA [own 122 1 v a.length (gF.all a)],w.heap.size≤k)∧a.length=gs.length∧
  ∀(k:Nat) (s:l4) (g:List Int),a[k]? = some s→gs[k]? = some g→Rd bX w' (λk=>w.heap.size≤k∧k∉aA [own 122 1 v a.length (gF.all a)]) s.A s.n s.c g
theorem j7.step {w p d l:World} {v m:Value} {b:List l4} {gs:List (List Int)} {s:l4} {g:List Int} {S:List Nat} (B:aA [own 122 1 v b.length (gF.all b)]=S) (h:j7 w v b gs p) (e:Ext S p d)
 (C:af d S [own 122 1 m (b.length+1) (gF.all b++gF.enc s)] l) (D:Rd bX d (λk=>w.heap.size≤k∧k∉S) s.A s.n s.c g):j7 w m (b++[s]) (gs++[g]) l:=by
 obtain⟨H,t,q,u,y⟩:=h;rw[B] at q y
 have o:af d S [own 122 1 m (b++[s]).length (gF.all (b++[s]))] l:=by
  rw[b8,bx.hk gF];exact C
 have I:=t.size
 have J:=e.size
 have r: ∀k,k∈aA [own 122 1 m (b++[s]).length (gF.all (b++[s]))]→k∈S∨d.heap.size≤k:=λk a=>by
  rcases e0 k d.heap.size with h | h
  exact .inl (o.ei k a h);exact .inr h
 have z:Ext S p l:=e.trans o.ext (λx e _=>e)
 refine⟨o.oq,t.trans z (λx e K=>absurd (q x e) aa),λk a=>?_,by simp[u],λk E F f i=>?_⟩;rcases r k a with h | h
 exact q k h;omega
 by_cases G:k<b.length
 rw[m8 G] at f
 rw[m8 aa] at i
 exact (((y k E F f i).hI aZ).ext z (λk a=>a.1.2)).dJ (λk a=>⟨a.1.1,λj=>by
  rcases r k j with h | h
  exact a.1.2 h;have:=a.2;omega⟩)
 have j:k=b.length:=by
  have:=(cY.1 f).1
  simp at this;omega
 subst j;rw[kY (ch _),m9] at f
 rw[kY aa,u,m9] at i
 simp only[qC,dI] at f i
 subst f;subst i
 exact ((D.hI aZ).ext o.ext (λk a=>a.1.2)).dJ (λk a=>⟨a.1.1,λj=>by
  rcases r k j with h | h
  exact a.1.2 h;have:=a.2;omega⟩)
theorem j7.ret {w w':World} {v:Value} {a:List l4} {gs:List (List Int)} (h:j7 w v a gs w'): ∃A c,v= .slice A a.length c∧Ext [] w w'∧ed w' (λk=>w.heap.size≤k) A a.length c gs:=by
 obtain⟨d,e,f,i,j⟩:=h;obtain⟨A,c,l,m⟩:=Rd.ga (E:=gF) (d.has Has.head) rfl;exact⟨A,c,l,e,a,m.dJ (λk b=>f k (by rw[fi];exact db.2 (.inl (i_.2 b)))),i,λk s g n o=>(j k s g n o).dJ (λk b=>b.1)⟩
theorem j7.nil {w w':World} (h:af w [] [own 122 1 (.slice none 0 0) 0 []] w'):j7 w (.slice none 0 0) [] [] w':=
 ⟨h.oq,h.ext,λk a=>by simp[aA,own,Value.ownBlock] at a,rfl,by simp⟩
theorem j7.later {w c d:World} {v:Value} {a:List l4} {gs:List (List Int)} (h:j7 w v a gs c) (b:af c (aA [own 122 1 v a.length (gF.all a)]) [own 122 1 v a.length (gF.all a)] d):j7 w v a gs d:=by
 obtain⟨p,e,f,i,j⟩:=h;have q:=e.size
 exact⟨b.oq,e.trans b.ext (λx l r=>absurd (f x l) aa),f,i,λk s g m n=>(j k s g m n).ext b.ext (λk o=>o.2)⟩
def nK (n:Int):Int:=max (-1) (min n 65535)
def j8 (g:List Int):List Int:=if g=[] then [-1] else (g.take 8).map nK
def fq (gs:List (List Int)):List (List Int):=if gs=[] then [[-1]] else (gs.take 32).map j8
theorem Sw (w:World) (n:Int):Calls prog 401 [.int .i64 n].toArray w (λe w'=>e= .returned (.int .i64 (nK n))∧w'=w):=by
 refine calls (n:=6) func401 rfl ntmps401 rfl ?_;refine cI ?_;intro b a;exact⟨rfl,a⟩
theorem kx {α:Type} {l:List α} {k:Nat} {a:α} (h:l[k]? = some a):l.take (k+1)=l.take k++[a]:=by rw[gk,h];rfl
theorem Sx {P:Program} {n:Nat} {c:Code} {Q:cq} {l:Fr} {H:World→Prop} (h: ∀w,H w→de P n c Q l (λx=>x=w)):de P n c Q l H:=
 λw b a d=>h w b w rfl a d
theorem Sy (w:World) (F:Nat→Prop) (A:Option Addr) (n c:Nat) (g:List Int) (f:Rd bX w F A n c g) (O:n≤1000000):
 Calls prog 339 [.slice A n c].toArray w (ik bX w (j8 g)):=by
 have j:=f.len
 have P:=f.cap
 refine aW func339 ntmps339 ?_;refine bI ?_;refine aj (λo=>?_) (λo=>?_);refine ah ?_;intro Q r R;refine al ?_;intro s a;have u:g=[]:=iZ aa
 rw[j8,ay u];have y:=Rd.ho (E:=bX) (L:=[-1]) a Has.head rfl aZ
 exact⟨_,_,_,rfl,a.ext,y.dJ (λk b=>by rw[b];exact r)⟩;refine ah ?_;refine jS 3 1 ?_;refine bp ?_;obtain⟨m,z⟩ : ∃m,m=min n 8:=⟨_,rfl⟩;refine ft 0 m dO rfl rfl (.inr ⟨rfl,rfl⟩) (.inl ⟨_,_,rfl,rfl,aa⟩) aa aa ?_;have i:=f.cut (p:=0) (q:=m) aa aa
 generalize B: (if c=0 then A else A.map (·.add (0*1)))=C
 rw[show bX.sz=1 from rfl,B] at i
 rw[kn,kn] at *
 rw[pq] at i
 have D: (g.take m).length=m:=by rw[dv];omega
 have G:j8 g=(g.take m).map nK:=by
  rw[j8,ag (λe=>by rw[e] at j;simp at j;omega)];congr 1
  rw[z];by_cases h:n≤8
  rw[iE h,ez aa,ez aa];rw[Nat.min_eq_right aa]
 refine ax ?_;refine b1 (ι:=Nat × Value) (λt=>[(3,t.2),(14,.slice C m c),(15,.int .i64 (m:Int)),(16,.int .i64 (t.1 :Int))]) (λt=>af w [] [own 3 1 t.2 t.1 (bX.all (((g.take m).take t.1).map nK))]) (λt=>t.1≤m) (λt=>m - t.1) ?_ ?_;exact λw' d=>⟨(0,.slice none 0 0),bP _,(cw rfl rfl rfl rfl),d⟩
 rintro⟨k,v⟩ b;dsimp only at b ⊢
 refine al ?_;refine aj (λH=>?_) (λH=>?_);obtain⟨x,l⟩ : ∃x,(g.take m)[k]? = some x:=⟨(g.take m)[k]'aa,bG _⟩;obtain⟨b2,S,_,I⟩:=i.at_ l;refine al ?_;refine bw (q:=k) dO rfl rfl rfl bA aa aa ?_;refine a7 bM rfl rfl (λw' d=>d.ct (I 0 _ rfl) av) ?_;refine al ?_;refine je rfl OP rfl (λw' _=>Sw w' x) ?_;refine ar ?_;intro T U V;refine gv dO rfl rfl rfl bi (λ_=>by exact cA) rfl (im rfl) (by simp only[maxLen];omega) aa (λJ W=>?_);refine aL ?_;refine bg (k+1,J) bm bm (cw rfl rfl rfl rfl) (λw' d=>?_);dsimp only;rw[kx l,gf,lI,List.map_nil,bx.hk bX];exact d;have K:k=m:=by omega
 subst K;refine bI ?_;intro s a;rw[G];rw[ez aa] at a
 obtain⟨X,Y,M,N⟩:=Rd.ga (E:=bX) (a.has Has.head) (by rw[cT];exact D);exact⟨_,_,_,aV _ M,a.ext,N.dJ (λk b=>by
  rcases e0 k w.heap.size with h | h
  have:=a.ei k (by rw[fi];exact db.2 (.inl (i_.2 b))) h
  cases this
  exact h)⟩
theorem Sz (g:List Int): (j8 g).length≤8:=by
 unfold j8;split
 simp
 rw[cT,dv];omega
theorem Bm (gs:List (List Int)): (fq gs).length≤32:=by
 unfold fq;split
 simp
 rw[cT,dv];omega
theorem SA (gs:List (List Int)): ∀g∈fq gs,1≤g.length∧g.length≤8:=by
 intro g a;have b: ∀x:List Int,1≤(j8 x).length:=λx=>by
  unfold j8;split
  simp
  rename_i h;have:x.length≠0:=λe=>h (iZ e)
  rw[cT,dv];omega
 unfold fq at a
 split at a
 rw[ey.1 a];simp
 obtain⟨x,_,rfl⟩:=dX.1 a;exact⟨b x,Sz x⟩
theorem Bn (w:World) (F:Nat→Prop) (A:Option Addr) (n c:Nat) (gs:List (List Int)) (r:ed w F A n c gs) (Zq:n≤1000000) (P: ∀g∈gs,g.length≤1000000):
 Calls prog 243 [.slice A n c].toArray w (sT w (fq gs)):=by
 have D:=r.len
 have Zr:=r.xm
 refine aW func243 ntmps243 ?_;refine bI ?_;refine aj (λu=>?_) (λu=>?_);refine ah ?_;intro G Q Zs;refine ar ?_;intro Zt R Zu;refine al ?_;intro T d;have j:gs=[]:=iZ aa
 rw[fq,ay j];have l:=Rd.ho (E:=bX) (L:=[-1]) d (Has.tail Has.head) rfl aZ
 have U:=Rd.ho (E:=gF) (L:=[⟨some ⟨G,0,none⟩,1,1⟩]) d Has.head rfl (by show 1≤maxLen;decide)
 refine⟨_,_,_,rfl,d.ext,[⟨some ⟨G,0,none⟩,1,1⟩],U.dJ (λk a=>by rw[a];exact R),rfl,λk s g y j=>?_⟩;cases k with
 | zero=>
  simp only[qC,dI] at y j
  subst y;subst j
  exact l.dJ (λk a=>by rw[a];exact Q)
 | succ k=>simp at y
 refine ah ?_;refine jS 122 1 ?_;refine bp ?_;obtain⟨m,V⟩ : ∃m,m=min n 32:=⟨_,rfl⟩;refine ft 0 m kr rfl rfl (.inr ⟨rfl,rfl⟩) (.inl ⟨_,_,rfl,rfl,aa⟩) aa aa ?_;have z:=r.cut (p:=0) (q:=m) aa aa
 generalize Zv: (if c=0 then A else A.map (·.add (0*1)))=W at z
 rw[kn,kn] at *
 rw[pq] at z
 have Zw: (gs.take m).length=m:=by rw[dv];omega
 have X:fq gs=(gs.take m).map j8:=by
  rw[fq,ag (λe=>by rw[e] at D;simp at D;omega)];congr 1
  rw[V];by_cases h:n≤32
  rw[iE h,ez aa,ez aa];rw[Nat.min_eq_right aa]
 have Y:=z.hI
 refine ax ?_;refine b1 (ι:=Nat × Value × List l4) (λt=>[(3,t.2.1),(15,.slice W m c),(16,.int .i64 (m:Int)),(17,.int .i64 (t.1 :Int))]) (λt=>j7 w t.2.1 t.2.2 (((gs.take m).take t.1).map j8)) (λt=>t.1≤m∧t.2.2.length=t.1) (λt=>m - t.1) ?_ ?_;exact λw' b=>⟨(0,.slice none 0 0,[]),⟨bP _,rfl⟩,(cw rfl rfl rfl rfl),j7.nil b⟩
 rintro⟨k,v,f⟩ ⟨a,H⟩;dsimp only at a H ⊢
 refine Sx λI o=>?_
 obtain⟨Z,J,Za,Zx,Zy⟩:=id o;generalize B:aA [own 122 1 v f.length (gF.all f)]=S at *
 have Zz:=J.size
 refine cL (H':=af I S [own 122 1 v f.length (gF.all f)]) ?_ (Sub.refl _) (λx i=>i▸Z);have Zb:=Y.ext J av
 have K: ∀k,k<w.heap.size→k∉S:=λk a C=>by have:=Za k C;omega
 refine al ?_;refine aj (λZc=>?_) (λZc=>?_);obtain⟨x,i⟩ : ∃x,(gs.take m)[k]? = some x:=⟨(gs.take m)[k]'aa,bG _⟩;obtain⟨b2,Zd,p,q,ZA,Ze,Zf,l⟩:=Zb.at_ i;have ZB:=l.len
 have ZC:=P x (iD (dc i))
 refine al ?_;refine bw (q:=k) kr rfl rfl rfl bA aa aa ?_;refine a7 il rfl rfl (λw' b=>b.ct Zf (by rw[block_add];exact K _ Ze.2)) ?_;refine al ?_;refine wD rfl Oh rfl (λw' b=>Sy w' _ Zd p q x (l.ext b.ext (λk a=>K k a.2)) aa) (λZD Zg Zh Zi Zj M Zk ZE N O=>?_);have ZF:=O.len
 have Zl:Ext S I Zg:=M.ext.dZ Zk
 have ZG:=M.ext.size
 refine ar ?_;intro ZH ZI ZJ;refine gv kr rfl rfl rfl bi (λ_=>by exact cA) rfl (im rfl) (by simp only[maxLen];omega) aa (λZm ZK=>?_);refine aL ?_;refine bg (k+1,Zm,f++[⟨Zh,Zi,Zj⟩]) ⟨by dsimp only;omega,by simp[H]⟩ bm (cw rfl rfl rfl rfl) (λw' b=>?_);dsimp only;rw[kx i,gf,lI,List.map_nil];rw[B] at b N
 exact j7.step B o Zl b (O.dJ (λk a=>⟨aa,λC=>by have:=N k C;omega⟩));have Zn:k=m:=by omega
 subst Zn;refine bI ?_;intro T d;rw[X];rw[ez aa] at o
 subst B;obtain⟨ZL,ZM,Zo,Zp,u⟩:=j7.ret (j7.later o d);exact⟨_,_,_,aV _ Zo,Zp,u⟩
theorem Hq (gs:List (List Int)): ∀g∈fq gs,∃y t,g=y::t∧ -1≤y∧y≤65535:=by
 have c: ∀x:List Int,∃y t,j8 x=y::t∧ -1≤y∧y≤65535:=λx=>by
  unfold j8;split
  exact⟨-1,[],rfl,aa,aa⟩;rename_i h;cases x with
  | nil=>exact absurd rfl h
  | cons a x=>exact⟨nK a,_,rfl,by unfold nK;omega,by unfold nK;omega⟩
 intro g b;unfold fq at b
 split at b
 rw[ey.1 b];exact⟨-1,[],rfl,aa,aa⟩
 obtain⟨x,_,rfl⟩:=dX.1 b;exact c x
def vo (g:List Int):Int:=g.headD (-1)
def mM (a:List (List Int)) (i:Int):Int:=if 0≤i∧i<(a.length:Int) then vo (a.getD i.toNat []) else -1
def o0 (gs:List (List Int)) (i a:Int):Int:=if mM (fq gs) i= -1 then a else mM (fq gs) i
theorem SB {a:List (List Int)} {k:Nat} {y:Int} {t:List Int} (h:a[k]? = some (y::t)):mM a (k:Int)=y:=by
 have b:=(cY.1 h).1
 rw[mM,ay aa];simp[vo,List.getD,h]
theorem Hr (w:World) (F:Nat→Prop) (A:Option Addr) (n c:Nat) (gs:List (List Int)) (G:ed w F A n c gs) (H:n≤1000000) (I: ∀g∈gs,g.length≤1000000) (i s:Int):
 Calls prog 171 [.slice A n c,.int .i64 i,.int .i64 s].toArray w (λe w'=>e= .returned (.int .i64 (o0 gs i s))∧Ext [] w w'):=by
 refine aW func171 ntmps171 ?_;refine aL ?_;refine mC (R:=λu=>Bl (fq gs) u) rfl zU rfl (λw' a=>(Bn w' F A n c gs (G.ext a.ext av) H I).mono (λe O h=>h.Hp)) ?_;rintro u J v K L P Q ⟨S,T,c1,rfl,z⟩;have f:Ext [] w J:=K.ext.dZ L
 have U:=z.len
 refine aJ ?_;refine aX 12 rfl (λj=>?_) (λj=>?_);have M:=a1 j
 refine lR ?_;intro l b;exact⟨by rw[o0,ay (show mM (fq gs) i= -1 by rw[mM,ag aa])],f.dZ (b.ext.mono (λx d _=>by simp[aA] at d))⟩;have M:=bc j
 refine aR ?_;refine aX 18 rfl (λm=>?_) (λm=>?_);have N:=a1 m
 refine hr ?_;intro l b;exact⟨by rw[o0,ay (show mM (fq gs) i= -1 by rw[mM,ag aa])],f.dZ (b.ext.mono (λx d _=>by simp[aA] at d))⟩;have N:=bc m
 obtain⟨k,rfl⟩ : ∃k:Nat,i=k:=⟨i.toNat,aa⟩;obtain⟨g,o⟩ : ∃g,(fq gs)[k]? = some g:=⟨(fq gs)[k]'aa,bG _⟩;obtain⟨b2,X,p,q,V,_,B,C⟩:=z.at_ o;obtain⟨y,t,rfl,W,Y⟩:=Hq gs g (dc o);have ai:=C.len
 simp only[eK] at ai
 obtain⟨Z,Za,_,D⟩:=C.at_ (k:=0) rfl;have E:=SB o
 refine ax ?_;refine bw (q:=k) kr rfl rfl rfl bA aa aa ?_;refine ar ?_;refine a7 il rfl rfl (λw' a=>a.ct B (by simp[aA])) ?_;refine ar ?_;refine bw (q:=0) dO rfl rfl rfl bA aa aa ?_;refine ar ?_;refine a7 bM rfl rfl (λw' a=>a.ct (D 0 _ rfl) (by simp[aA])) ?_;refine ax ?_;refine aj (λr=>?_) (λr=>?_);refine aJ ?_;intro l b;exact⟨by rw[o0,E,ay r],f.dZ (b.ext.mono (λx d _=>by simp[aA] at d))⟩;refine al ?_;refine bw (q:=k) kr rfl rfl rfl bA aa aa ?_;refine a7 il rfl rfl (λw' a=>a.ct B (by simp[aA])) ?_;refine bw (q:=0) dO rfl rfl rfl bA aa aa ?_;refine a7 bM rfl rfl (λw' a=>a.ct (D 0 _ rfl) (by simp[aA])) ?_;refine ax ?_;intro l b;exact⟨by rw[o0,E,ag r],f.dZ (b.ext.mono (λx d _=>by simp[aA] at d))⟩
def vp (gs:List (List Int)):List Int:=(fq gs).map (λg=>max 0 (vo g))
theorem SC (w:World) (F:Nat→Prop) (A:Option Addr) (n c:Nat) (gs:List (List Int)) (r:ed w F A n c gs) (s:n≤1000000) (x: ∀g∈gs,g.length≤1000000):
 Calls prog 244 [.slice A n c].toArray w (ik bX w (vp gs)):=by
 have L:=Bm gs
 refine aW func244 ntmps244 ?_;refine al ?_;refine jS 3 1 ?_;refine aL ?_;refine mC (R:=λj=>Bl (fq gs) j) rfl zU rfl (λw' a=>(Bn w' F A n c gs (r.ext a.ext av) s x).mono (λe M h=>h.Hp)) ?_;rintro j f v z B N O ⟨C,b,c1,rfl,l⟩;have m:Ext [] w f:=z.ext.dZ B
 have P:=l.len
 have D:aA [own 3 1 (.slice none 0 0) 0 []]=[]:=by simp[aA,own,Value.ownBlock]
 rw[D];refine ax ?_;refine b1 (ι:=Nat × Value) (λt=>[(3,t.2),(7,.slice C b c1),(8,.int .i64 (b:Int)),(9,.int .i64 (t.1 :Int))]) (λt=>af f [] [own 3 1 t.2 t.1 (bX.all (((fq gs).take t.1).map (λg=>max 0 (vo g))))]) (λt=>t.1≤b) (λt=>b - t.1) ?_ ?_;exact λw' a=>⟨(0,.slice none 0 0),bP _,(cw rfl rfl rfl rfl),a⟩
 rintro⟨k,u⟩ E;dsimp only at E ⊢
 refine al ?_;refine aj (λG=>?_) (λG=>?_);obtain⟨g,d⟩ : ∃g,(fq gs)[k]? = some g:=⟨(fq gs)[k]'aa,bG _⟩;obtain⟨b2,X,p,q,Q,_,H,o⟩:=l.at_ d;obtain⟨y,t,rfl,S,T⟩:=Hq gs g (dc d);have ai:=o.len
 simp only[eK] at ai
 obtain⟨U,V,_,I⟩:=o.at_ (k:=0) rfl;refine al ?_;refine bw (q:=k) kr rfl rfl rfl bA aa aa ?_;refine a7 il rfl rfl (λw' a=>a.ct H av) ?_;refine al ?_;refine bw (q:=0) dO rfl rfl rfl bA aa aa ?_;refine a7 bM rfl rfl (λw' a=>a.ct (I 0 _ rfl) av) ?_;refine aq ?_;intro W Y Z;refine gv dO rfl rfl rfl bi (λ_=>by exact cA) rfl (im rfl) (by simp only[maxLen];omega) aa (λJ Za=>?_);refine aL ?_;refine bg (k+1,J) bm bm (cw rfl rfl rfl rfl) (λw' a=>?_);dsimp only;rw[kx d,gf,lI,List.map_nil,bx.hk bX];exact a;have K:k=b:=by omega
 subst K;rw[ez aa];refine bI ?_;intro Zb i;refine ik.ga (m.dZ i.ext) (i.has Has.head) (by rw[vp,cT];omega) (λg d=>?_);have Zc:=m.size
 rcases e0 g f.heap.size with h | h
 exact absurd (i.ei g (by rw[fi];exact db.2 (.inl (i_.2 d))) h) av;omega
structure iT where
 di:Int
 fn:Int
 an:Int
 aM:Int
 fl:Int
deriving DecidableEq
abbrev tg (a:iT):Value:= .agg [.int .i64 a.di,.int .i64 a.fn,.int .i64 a.an,.int .i64 a.aM,.int .i64 a.fl].toArray
abbrev qf (k n:Int):Value:= .agg [.int .i64 k,.int .i64 n].toArray
theorem th {z:Int} (a:0≤z) (b:z<9223372036854775808):IntKind.i64.wrap z=z:=by simp[IntKind.wrap,IntKind.bits,IntKind.signed];omega
def mN (gs:List (List Int)):Prop:=gs.length≤32∧ ∀g∈gs,1≤g.length∧g.length≤8∧ ∀x∈g,-1≤x∧x≤65535
def v0 (g:List Int):Int:=max 0 (g.headD 0)
def nL (gs:List (List Int)) (i:Nat):Int:=match gs[i]? with | some g=>v0 g | none=>0
theorem mN.at_ {gs:List (List Int)} (h:mN gs) {i:Nat} {g:List Int} (b:gs[i]? = some g): ∃x t,g=x::t∧ -1≤x∧x≤65535∧t.length≤7:=by
 have a:=h.2 g (dc b)
 cases g with
 | nil=>exact absurd a.1 av
 | cons x t=>exact⟨x,t,rfl,(a.2.2 x av).1,(a.2.2 x av).2,by have:=a.2.1;simp at this;omega⟩
theorem SD {gs:List (List Int)} (h:mN gs) (i:Nat):0≤nL gs i∧nL gs i≤65535:=by
 unfold nL;cases a:gs[i]? with
 | none=>simp
 | some g=>
  obtain⟨x,t,rfl,b,c,_⟩:=h.at_ a;simp only[v0,List.headD_cons];omega
theorem Bo (w:World) (F:Nat→Prop) (A:Option Addr) (n c:Nat) (gs:List (List Int)) (h:ed w F A n c gs) (m:mN gs) (i:Nat) (hi:i≤1000):
 Calls prog 408 [.slice A n c,.int .i64 (i:Int)].toArray w (λe w'=>e= .returned (.int .i64 (nL gs i))∧Ext [] w w'):=by
 have u:=h.len
 refine aW func408 ntmps408 ?_;refine bI ?_;refine aX 9 rfl (λb=>?_) (λb=>?_);have o:=a1 b
 refine e4 ?_;intro r d;exact⟨by rw[nL,km aa],d.ext⟩;have o:=bc b
 obtain⟨g,f⟩ : ∃g,gs[i]? = some g:=⟨gs[i]'aa,bG _⟩;obtain⟨b2,X,p,q,v,_,j,l⟩:=h.at_ f;obtain⟨y,t,rfl,x,z,B⟩:=m.at_ f;have ai:=l.len
 simp only[eK] at ai
 obtain⟨C,D,_,s⟩:=l.at_ (k:=0) rfl;refine ax ?_;refine bw (q:=i) kr rfl rfl rfl bA aa aa ?_;refine ar ?_;refine a7 il rfl rfl (λw' a=>a.ct j (by simp[aA])) ?_;refine aD ?_;refine fD rfl ((bO aa)) ?_;refine al ?_;refine bw (q:=i) kr rfl rfl rfl bA aa aa ?_;refine a7 il rfl rfl (λw' a=>a.ct j (by simp[aA])) ?_;refine bw (q:=0) dO rfl rfl rfl bA aa aa ?_;refine a7 bM rfl rfl (λw' a=>a.ct (s 0 _ rfl) (by simp[aA])) ?_;refine al ?_;intro r d;exact⟨by rw[nL,f];rfl,d.ext⟩
end Go.Proofs.YtoghoobfpcadbaaGreatDoor.Mq.cr
