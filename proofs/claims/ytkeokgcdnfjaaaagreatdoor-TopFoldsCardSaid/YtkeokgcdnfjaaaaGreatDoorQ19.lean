/- part 19 of the proof -/
import Derived.Test.YtkeokgcdnfjaaaaGreatDoorQ09
import Derived.Shelf.GgClosure.StringsIndexFuncTop
import Derived.Laws.RangeAny
namespace Go.Proofs.YtkeokgcdnfjaaaaGreatDoor.Mq.cr
open Go Go.RowKit Go.Proofs Tryz
theorem p9: ∀(l:List UInt8) (c:UInt8),(c∉l∧Lib.indexByte l c= -1)∨ ∃pre d,l=pre++c::d∧c∉pre∧Lib.indexByte l c=(pre.length:Int)
 | [],c=> .inl ⟨by simp,rfl⟩
 | b::l,c=>by
  by_cases a:b=c
  subst a;exact .inr ⟨[],l,rfl,by simp,by simp[Lib.indexByte]⟩;rcases p9 l c with ⟨e,f⟩ | ⟨pre,d,e,f,g⟩
  exact .inl ⟨by simp[e,Ne.symm a],by simp[Lib.indexByte,a,f]⟩;refine .inr ⟨b::pre,d,by rw[e];rfl,by simp[f,Ne.symm a],?_⟩;have: ¬((pre.length:Int)= -1):=by omega
  simp[Lib.indexByte,a,g,this]
def hO (r:Nat):Bool:=decide (48≤r) && decide (r≤59)
def gS (s:List UInt8):Bool:=s.all (λc=>hO c.toNat)
def re (n:Int) (c:UInt8):Int:=min (n*10+IntKind.u8.wrap ((c.toNat:Int) - 48)) 65535
def oT (s:List UInt8):Int:=if s=[] then -1 else s.foldl re 0
def jY (a:UInt8):Nat→List UInt8→List (List UInt8)
 | 0,_=>[]
 | m+1,s=>if a∈s then s.takeWhile (· ≠a)::jY a m ((s.dropWhile (· ≠a)).drop 1) else [s]
theorem oU {pre post:List UInt8} {sep:UInt8} (h:sep∉pre): (pre++sep::post).takeWhile (· ≠sep)=pre∧((pre++sep::post).dropWhile (· ≠sep)).drop 1=post:=by
 induction pre with
 | nil=>simp
 | cons c pre b=>
  have d:c≠sep:=λe=>h (by simp[e])
  have a:=b (λf=>h (by simp[f]))
  have ak:decide (c≠sep)=true:=b1 d
  rw[mi,List.takeWhile_cons_of_pos (p:=λx=>decide (x≠sep)) ak,List.dropWhile_cons_of_pos (p:=λx=>decide (x≠sep)) ak,a.1];exact⟨rfl,a.2⟩
theorem R5 {pre post:List UInt8} {a:UInt8} (h:a∉pre) (m:Nat):jY a (m+1) (pre++a::post)=pre::jY a m post:=by
 rw[jY,ax av,(oU h).1,(oU h).2]
theorem R6 {s:List UInt8} {a:UInt8} (h:a∉s) (m:Nat):jY a (m+1) s=[s]:=by
 rw[jY,ag h]
theorem u_ (a:UInt8): ∀(m:Nat) (s:List UInt8),(jY a m s).length≤m
 | 0,_=>by simp[jY]
 | m+1,s=>by
  rw[jY];split
  have:=u_ a m ((s.dropWhile (· ≠a)).drop 1);simp only[eK];omega
  simp
def jZ (p:List UInt8):List Int:=(jY 58 8 p).map oT
def va (s:List UInt8):List (List Int):=(jY 59 32 s).map jZ
theorem Hf (z:Int):0≤IntKind.u8.wrap z∧IntKind.u8.wrap z≤255:=by
 simp[IntKind.wrap,IntKind.bits,IntKind.signed];omega
theorem Hg: ∀(s:List UInt8) (n:Int),0≤n∧n≤65535→0≤s.foldl re n∧s.foldl re n≤65535
 | [],n,h=>h
 | c::s,n,h=>by
  rw[rL];refine Hg s _ ?_;have:=Hf ((c.toNat:Int) - 48)
  unfold re;omega
theorem xT:ad prog 405:=ad.of func405 ab ab
theorem A7:ad prog 426:=ad.of func426 ab ab
theorem A8:ad prog 397:=ad.of func397 ab ab
theorem xU (w:World) (s:List UInt8) (c:UInt8):
 Calls prog 405 [.string (bs s),.int .u8 (c.toNat:Int)].toArray w (λe w'=>e= .returned (.int .i64 (Lib.indexByte s c))∧w'=w):=by
 refine calls (n:=8) func405 rfl ntmps405 rfl ?_;refine aJ ?_;refine wX rfl rfl (λa _=>Ft func434 ab ab ab ab s c a) ?_;refine ay ?_;intro d b;exact⟨rfl,b⟩
theorem A9 (w:World) (s:List UInt8) (c:UInt8):
 Calls prog 426 [.string (bs s),.string (bs [c])].toArray w (λe w'=>e= .returned (.int .i64 (Lib.indexByte s c))∧w'=w):=by
 refine calls (n:=143) func426 rfl ntmps426 rfl ?_;refine eG ?_;refine cA rfl rfl av ?_;refine aq ?_;refine cA rfl rfl av ?_;refine aq ?_;refine cA rfl rfl av ?_;refine aq ?_;refine kj rfl rfl av rfl ?_;refine ah ?_;refine aj (λb=>?_) (λb=>?_);refine aJ ?_;intro d a;refine⟨?_,a⟩;rw[←b];simp[Lib.indexByte]
 refine aC ?_;refine ev rfl (av) ?_;refine aS ?_;refine hZ (q:=0) underlying9 rfl rfl rfl a7 (rfl: [c][0]? = some c) ?_;refine ja rfl xT rfl (λw' _=>xU w' s c) ?_;refine aC ?_;intro d a;exact⟨rfl,a⟩
def iJ (s:List UInt8) (c:UInt8):Value:=if c∈s then .tuple #[.string (bs (s.takeWhile (· ≠c))),.string (bs ((s.dropWhile (· ≠c)).drop 1)),.bool true] else .tuple #[.string (bs s),.string (bs []),.bool false]
theorem A_ (w:World) (s:List UInt8) (c:UInt8) (l:s.length≤1000000):
 Calls prog 397 [.string (bs s),.string (bs [c])].toArray w (λe w'=>e= .returned (iJ s c)∧Ext [] w w'):=by
 refine aW func397 ntmps397 ?_;refine bw ?_;refine ja rfl A7 rfl (λw' _=>A9 w' s c) ?_;refine aJ ?_;rcases p9 s c with ⟨j,a⟩ | ⟨pre,f,b,g,a⟩
 rw[a];refine bH ?_;intro k d;exact⟨by rw[iJ,ag j],d.ext⟩;rw[a];refine ev rfl (av) ?_;have m:pre.length+1≤s.length:=by rw[b];simp
 refine aq ?_;refine bG [0,1,2,3,4,5,6,7,8,9,10,11] 0 [[]] ?_;refine ar ?_;refine aL rfl (λh i=>(pv pre.length underlying9 rfl rfl rfl a7 aa aG)) ?_;refine aS ?_;refine aL rfl (λh i=>(gH (r:=((pre.length+1 :Nat):Int)) rfl rfl rfl (by rw[wrap64 (by simp;omega) (by simp;omega)];simp) aG)) ?_;refine aL rfl (λh i=>(pu (pre.length+1) underlying9 rfl rfl rfl a7 aa aG)) ?_;refine aJ ?_;intro k d;refine⟨?_,d.ext⟩;rw[iJ,ax (by rw[b];simp),b,(oU g).1,(oU g).2,rS,show pre++c::f=(pre++[c])++f by simp,List.drop_left'] <;> simp
theorem Ba (w:World) (s:List UInt8) (c:UInt8) (a:s.length≤1000000):
 Calls prog 334 [.string (bs s),.string (bs [c])].toArray w (λe w'=>e= .returned (iJ s c)∧Ext [] w w'):=by
 refine aW func334 ntmps334 ?_;refine bo ?_;refine ao rfl A8 rfl (λw' _=>A_ w' s c a) ?_;obtain⟨x,y,b,d⟩ : ∃x y b,iJ s c= .tuple #[.string x,.string y,.bool b]:=by unfold iJ;split <;> exact⟨_,_,_,rfl⟩
 rw[d];refine aR ?_;intro g f;exact⟨rfl,f.ext⟩
theorem R7 (w:World) (s:List UInt8) (l:s.length≤1000000):
 Calls prog 296 [.string (bs s)].toArray w (λe w'=>e= .returned (.int .i64 (oT s))∧w'=w):=by
 refine calls (n:=23) func296 rfl ntmps296 rfl ?_;refine bw ?_;refine aj (λa=>?_) (λa=>?_);refine aK ?_;intro g b;exact⟨by rw[oT,ax (by simpa using a)],b⟩;refine b5 ?_;refine b3 (ι:=Nat) (λk=>[(0,.string (bs s)),(3,.int .i64 ((s.take k).foldl re 0)),(4,.int .i64 (k:Int))]) (λ_ x=>x=w) (λk=>k≤s.length) (λk=>s.length - k) ?_ ?_;exact λw' d=>⟨0,bN _,(dZ rfl rfl rfl),d⟩
 rintro k m;refine aJ ?_;refine aj (λh=>?_) (λh=>?_);obtain⟨c,f⟩ : ∃c,s[k]? = some c:=⟨s[k]'aa,bE _⟩;have o:=Hg (s.take k) 0 aa
 have p:=Hf ((c.toNat:Int) - 48)
 have i: (s.take (k+1)).foldl re 0=min ((s.take k).foldl re 0*10+IntKind.u8.wrap ((c.toNat:Int) - 48)) 65535:=by
  rw[fU,f,pm,List.foldl_append];rfl
 refine al ?_;refine kV rfl rfl rfl (wrap64 aa aa) ?_;refine ar ?_;refine hZ (q:=k) underlying9 rfl rfl rfl aa f ?_;refine gI rfl rfl rfl rfl ?_;refine bw ?_;refine bg (k+1) aa aa (Sub.cons a7 (Sub.cons ?_ (Sub.cons a7 Sub.nil))) (λw' d=>d);rw[i];simp[look]
 have j:s.take k=s:=eu aa
 rw[j];refine bH ?_;intro g b;exact⟨by rw[oT,ag (by simpa using a)],b⟩
theorem xV (w:World) (f:FuncId) (cap:Array Value) (z:ad prog f) (b:List (List UInt8)→World→Prop) (fs:List UInt8) (N:fs.length≤1000000)
 (m:Nat) (O:m≤1000) (A: ∀a part w',b a w'→a.length<m→(part.length≤fs.length∧ ∀c∈part,c∈fs)→Calls prog f (#[]++[Value.string (bs part)].toArray++cap) w' (λe i=>e= .returned (.tuple #[])∧b (a++[part]) i))
 (p: ∀a w' i,b a w'→Ext [] w' i→b a i) (d:UInt8) (C:b [] w):
 Calls prog 293 [.string (bs fs),.string (bs [d]),.int .i64 (m:Int),.func (.func f) #[] cap].toArray w (λe w'=>e= .returned (.tuple #[])∧b (jY d m fs) w'):=by
 refine calls (n:=30) func293 rfl ntmps293 rfl ?_;refine cG (H':=b []) ?_ (Sub.refl _) (λx p=>p▸C);refine al ?_;refine b3 (ι:=Nat × List UInt8 × List (List UInt8)) (λt=>[(0,.string (bs t.2.1)),(1,.string (bs [d])),(2,.int .i64 (m:Int)),(3,.func (.func f) #[] cap),(8,.int .i64 (t.1 :Int))]) (λt=>b t.2.2) (λt=>t.1≤m∧t.2.2.length=t.1∧(t.2.1.length≤fs.length∧ ∀c∈t.2.1,c∈fs)∧jY d m fs=t.2.2++jY d (m - t.1) t.2.1) (λt=>m - t.1) ?_ ?_;exact λw' g=>⟨(0,fs,[]),⟨bN _,rfl,⟨cd _,λc l=>l⟩,rfl⟩,(ec rfl rfl rfl rfl rfl),g⟩
 rintro⟨k,r,a⟩ ⟨D,E,o,h⟩;dsimp only at D E o h ⊢
 refine aK ?_;refine aj (λF=>?_) (λF=>?_);obtain⟨q,G⟩ : ∃q,m - k=q+1:=⟨m - k - 1,aa⟩;rw[G] at h
 refine aK ?_;refine sq (v:=iJ r d) (H':=b a) rfl EV rfl (λw' g=>?_) ?_;refine Calls.mono (Ba w' r d aa) ?_;rintro e i ⟨rfl,H⟩;exact⟨rfl,p a w' i g H⟩;rcases p9 r d with ⟨B,I⟩ | ⟨pre,s,j,u,I⟩
 rw[iJ,ag B];refine bH ?_;refine Ac (v:= .tuple #[]) (H':=b (a++[r])) rfl rfl z rfl (λw' g=>A a r w' g aa o) ?_;refine ef ?_;intro J y;rw[R6 B] at h
 rw[h];exact⟨rfl,y⟩;have K:d∈r:=by rw[j];simp
 rw[iJ,ax K];rw[j,(oU u).1,(oU u).2];have P:pre.length≤r.length∧s.length≤r.length:=by rw[j];simp;omega
 have L: ∀c∈pre,c∈fs:=λc l=>o.2 c (by rw[j];simp[l])
 have M: ∀c∈s,c∈fs:=λc l=>o.2 c (by rw[j];simp[l])
 refine bH ?_;refine Ac (v:= .tuple #[]) (H':=b (a++[pre])) rfl rfl z rfl (λw' g=>A a pre w' g aa ⟨aa,L⟩) ?_;refine nl ?_;rw[j,R5 u] at h
 refine bg (k+1,s,a++[pre]) ⟨by dsimp only;omega,by simp;omega,⟨by dsimp only;omega,M⟩,?_⟩ bm (ec rfl rfl rfl rfl rfl) (λw' g=>g);dsimp only;rw[h,show m - (k+1)=q by omega];simp
 refine ay ?_;intro J y;rw[show m - k=0 by omega,jY,fJ] at h
 rw[h];exact⟨rfl,y⟩
def Bb:Shelf.Ren:=⟨λ| 15=>364 | 20=>412 | n=>n,λ| 0=>0 | 3=>3 | 4=>4 | 9=>9 | 21=>21 | 23=>385 | n=>n,λn=>n⟩
theorem Bc:LaysGw.n15 prog Bb where
 mixed:=by kernel_rfl
 f15:=func364.trans (aX some ab)
 f20:=func412.trans (aX some ab)
 t0:=underlying0
 a0:=isAgg0
 z0:=sizeOf0
 v0:=zeroValue0
 i0:=by kernel_rfl
 t3:=underlying3
 a3:=isAgg3
 z3:=sizeOf3
 v3:=zeroValue3
 i3:=by kernel_rfl
 t4:=underlying4
 a4:=isAgg4
 z4:=sizeOf4
 v4:=zeroValue4
 i4:=by kernel_rfl
 t9:=underlying9
 a9:=isAgg9
 z9:=sizeOf9
 v9:=zeroValue9
 i9:=by kernel_rfl
 t21:=underlying21
 a21:=isAgg21
 z21:=sizeOf21
 v21:=zeroValue21
 i21:=by kernel_rfl
 t23:=underlying385
 a23:=isAgg385
 z23:=sizeOf385
 v23:=zeroValue385
 i23:=by kernel_rfl
theorem R8:ad prog 365:=ad.of func365 ab ab
theorem R9 (w:World) (r:Nat):
 Calls prog 365 [.int .i32 (r:Int)].toArray w (λe w'=>e= .returned (.bool (!hO r))∧w'=w):=by
 refine calls (n:=17) func365 rfl ntmps365 rfl ?_;refine aR ?_;refine aV 5 rfl (λf=>?_) (λf=>?_);have h:=aY f
 refine aR ?_;refine aV 13 rfl (λb=>?_) (λb=>?_);have c:=aY b
 refine aR ?_;intro d a;refine⟨?_,a⟩;have:hO r=false:=by simp[hO];omega
 rw[this,b1 aa];rfl
 have c:=a8 b
 refine aK ?_;intro d a;exact absurd c aa;have h:=a8 f
 refine al ?_;refine aV 9 rfl (λg=>?_) (λg=>?_);have i:=aY g
 refine al ?_;refine aV 13 rfl (λb=>?_) (λb=>?_);have c:=aY b
 refine aR ?_;intro d a;refine⟨?_,a⟩;by_cases j: (r:Int)=58
 have:hO r=true:=by simp[hO];omega
 rw[this,cm aa];rfl
 have:hO r=false:=by simp[hO];omega
 rw[this,b1 j];rfl
 have c:=a8 b
 refine aK ?_;intro d a;have:hO r=true:=by simp[hO];omega
 exact⟨by rw[this];rfl,a⟩;have i:=a8 g
 refine bw ?_;intro d a;have:hO r=true:=by simp[hO];omega
 exact⟨by rw[this];rfl,a⟩
theorem Hh (s:List UInt8): ∀(f pos:Nat),s.length≤f+pos→(Lib.idxFuncFrom (λr=> !hO r) true (bs s) f pos<0↔ ∀(j:Nat) (c:UInt8),pos≤j→s[j]? = some c→hO c.toNat=true)
 | 0,pos,h=>by
  constructor
  intro _ j c e a;have:=(cU.1 a).1
  omega
  intro _;simp[Lib.idxFuncFrom]
 | f+1,pos,h=>by
  unfold Lib.idxFuncFrom;rw[hz];by_cases ai:pos<s.length
  rw[ax ai];have g:pos<(bs s).size:=by rw[hz];exact ai
  have i: (bs s)[pos]'g=s[pos]:=by simp[bs,ByteArray.getElem_eq_getElem_data]
  by_cases l: (s[pos]).toNat<128
  have ak:=decode_ascii (bs s) pos g (by rw[i];exact l)
  rw[i] at ak
  rw[ak];dsimp only;by_cases d:hO (s[pos]).toNat=true
  rw[ag (by simp[d]),Hh s f (pos+1) aa];constructor
  intro b j c e a;by_cases m:j=pos
  subst m;rw[bE ai] at a
  simp only[dz] at a
  rw[←a];exact d
  exact b j c aa a;intro b j c e a;exact b j c aa a;rw[ax (by simp[d])];constructor
  intro n;omega
  intro b;exact absurd (b pos s[pos] (cd _) (bE ai)) d;have ak:=decode_high (bs s) pos g (by rw[i];omega)
  have k: ∀r,128≤r→hO r=false:=λr o=>by simp[hO];omega
  rw[ax (by simp[k _ ak.1])];constructor
  intro n;omega
  intro b;have:=b pos s[pos] (cd _) (bE ai)
  rw[k _ aa] at this
  cases this
  rw[ag ai];constructor
  intro _ j c e a;have:=(cU.1 a).1
  omega
  intro _;omega
theorem R_ (w:World) (s:List UInt8):
 Calls prog 292 [.string (bs s)].toArray w (λe w'=>e= .returned (.bool (gS s))∧Ext [] w w'):=by
 have d: ∀w',Calls prog 364 [.string (bs s),.func (.func 365) #[] #[]].toArray w' (λe a=>e= .returned (.int .i64 (Lib.idxFunc (λr=> !hO r) true (bs s)))∧Ext [] w' a):=λw'=>by
  refine Calls.mono (Any.strings_IndexFunc Bc 365 #[] (λargs w=>y8 R8 args w) (λr=> !hO r) (bs s) w' (λW x _=>?_)) (λe a h=>⟨h.1,Ext.r0 h.2⟩);refine Calls.mono (R9 W x) (λe a h=>⟨h.1,0,?_⟩);rw[h.2];rfl
 have f:decide (Lib.idxFunc (λr=> !hO r) true (bs s)<0)=gS s:=by
  have:=Hh s s.length 0 aa
  rw[Lib.idxFunc,hz];rw[Bool.eq_iff_iff,decide_eq_true_iff,this,gS,iQ];constructor
  intro h c b;obtain⟨j,g⟩:=qv b;exact h j c (bN _) g;intro h j c _ b;exact h c (c8 b)
 refine aW func292 ntmps292 ?_;refine aK ?_;refine ao rfl E0 rfl (λw' _=>d w') ?_;refine al ?_;intro k i;exact⟨by rw[f],i.ext⟩
def bS:bA Int:=⟨λx=>[.int .i64 x],1,λ_=>rfl,λ_=>by repeat (first | exact aI.nil | refine aI.cons rfl ?_)⟩
structure lT where
 A:Option Addr
 n:Nat
 c:Nat
def gw:bA lT:=⟨λs=>[.slice s.A s.n s.c],1,λ_=>rfl,λ_=>by repeat (first | exact aI.nil | refine aI.cons rfl ?_)⟩
theorem Sa {P:Program} {n:Nat} {ops:Array Oper} {Q:cl} {rest:List Oper} {l:Fr} {ι:Type} {H:ι→World→Prop} (h: ∀i,az P n ops Q rest l (H i)):az P n ops Q rest l (λw=> ∃i,H i w):=
 λw ⟨i,b⟩ a c=>h i w b a c
theorem Sb {P:Program} {n:Nat} {ops:Array Oper} {Q:cl} {rest:List Oper} {l:Fr} {H:World→Prop} (h: ∀w,H w→az P n ops Q rest l (λx=>x=w)):az P n ops Q rest l H:=
 λw b a c=>h w b w rfl a c
theorem Sc (b:World) (S:List Nat) (cs:List Chunk) (a:Nat) (v:Value) (L:List Int) (part:List UInt8) (ai:part.length≤1000000) (m:L.length≤1000) (w:World)
 (d:af b S (aD a [v] 134::own 3 1 v L.length (bS.all L)::cs) w):
 Calls prog 295 [.string (bs part),.pointer (some ⟨a,0,none⟩)].toArray w (λe w'=>e= .returned (.tuple #[])∧ ∃c,af b S (aD a [c] 134::own 3 1 c (L++[oT part]).length (bS.all (L++[oT part]))::cs) w'):=by
 refine calls (n:=8) func295 rfl ntmps295 rfl ?_;refine cG (H':=af b S (aD a [v] 134::own 3 1 v L.length (bS.all L)::cs)) ?_ (Sub.refl _) (λx f=>f▸d);refine bG [0,1,2] 3 [[(3,false,[]),(4,true,[]),(5,true,[])]] ?_;refine ar ?_;refine aL rfl (λo p=>(ja rfl NN rfl (λw' _=>R7 w' part ai) aG)) ?_;refine ah ?_;intro q r s;refine bY (λ_=>True) (λ_ h=> .inr (h.rem bv.head)) (λ_ h=>aU) ?_;refine ar ?_;refine gm dJ rfl rfl rfl bi (λ_=>by exact eo) rfl (ic rfl) (by simp only[maxLen];omega) aa (λg t=>?_);refine ah ?_;refine iX (v:=g) (Has.tail Has.head) (λi j k u y z A=>?_);subst k;refine ay ?_;intro B l;refine⟨rfl,.slice i (L.length+1) j,?_⟩;rw[b0,bA.hc bS];exact l
def d8 (w:World) (F:Nat→Prop) (A:Option Addr) (n c:Nat) (gs:List (List Int)):Prop:=
 ∃a:List lT,Rd gw w F A n c a∧a.length=gs.length∧ ∀(k:Nat) (s:lT) (g:List Int),a[k]? = some s→gs[k]? = some g→Rd bS w F s.A s.n s.c g
abbrev jB (c:Nat) (a:Value) (b:List lT):List Chunk:=[aD c [a] 168,own 134 1 a b.length (gw.all b)]
def rf (w:World) (b:Nat) (gs:List (List Int)) (w':World):Prop:=
 ∃d a,af w' (aB (jB b d a)) (jB b d a) w'∧Ext [] w w'∧(∀k∈aB (jB b d a),w.heap.size≤k)∧a.length=gs.length∧
  ∀(k:Nat) (s:lT) (g:List Int),a[k]? = some s→gs[k]? = some g→Rd bS w' (λk=>w.heap.size≤k∧k∉aB (jB b d a)) s.A s.n s.c g
theorem rf.ext {w b c:World} {d:Nat} {gs:List (List Int)} (h:rf w d gs b) (a:Ext [] b c):rf w d gs c:=by
 obtain⟨e,f,i,j,l,m,n⟩:=h;exact⟨e,f,(i.keep a).og,j.dU a,l,m,λk s g o p=>(n k s g o p).ext a av⟩
theorem Sd (w:World) (b:Nat) (gs:List (List Int)) (part:List UInt8) (ai:part.length≤1000000) (X:gs.length≤1000) (d:World) (K:rf w b gs d):
 Calls prog 294 [.string (bs part),.pointer (some ⟨b,0,none⟩)].toArray d (λe w'=>e= .returned (.tuple #[])∧rf w b (gs++[jZ part]) w'):=by
 obtain⟨f,a,L,D,B,F,M⟩:=K;have Y:=u_ 58 8 part
 refine calls (n:=11) func294 rfl ntmps294 rfl ?_;refine cG (H':=af d (aB (jB b f a)) (jB b f a)) ?_ (Sub.refl _) (λx m=>m▸L);generalize Z:aB (jB b f a)=S at *
 refine ar ?_;refine r3 ib rfl (λo Za Zb=>?_);refine al ?_;refine pq 3 1 ?_;refine sq (v:= .tuple #[]) (H':=λw'=> ∃v,af d S (aD o [v] 134::own 3 1 v (jZ part).length (bS.all (jZ part))::jB b f a) w') rfl EQ rfl (λw' N=>?_) ?_
 ·refine xV w' 295 #[.pointer (some ⟨o,0,none⟩)] NM (λq w'=> ∃v,af d S (aD o [v] 134::own 3 1 v (List.map oT q).length (bS.all (List.map oT q))::jB b f a) w') part ai 8 a1 ?_ ?_ 58 ⟨.slice none 0 0,N.swap⟩
  ·rintro q p G ⟨v,C⟩ Zc ⟨Zd,_⟩
   rw[gb];exact Sc d S (jB b f a) o v (List.map oT q) p aa (by rw[cN];omega) G C
  ·rintro q G Ze ⟨v,C⟩ m
   exact⟨v,C.keep m⟩
 refine Sa λv=>?_
 refine iX (v:=v) (Has.tail Has.head) (λi j O Zf Zg Zh Zi=>?_);subst O;refine al ?_;intro Zj Zk Zl;refine gm km rfl rfl rfl bi (λ_=>by exact nj) rfl (ic rfl) (by simp only[maxLen];omega) aa (λP Zm=>?_);refine iX (v:=P) hD (λr t Q Zn Zo Zp Zq=>?_);subst Q;refine ah ?_;intro R z;have A:af d S (jB b (.slice r (a.length+1) t) (a++[⟨i,(jZ part).length,j⟩])) R:=by
  unfold jB;rw[b0,bA.hc gw];exact (z.rem bv.head).rem bv.head
 have H: ∀k,k∈aB (jB b (.slice r (a.length+1) t) (a++[⟨i,(jZ part).length,j⟩]))→k∈S∨d.heap.size≤k:=λk c=>by
  rcases e1 k d.heap.size with h | h
  ·exact .inl (A.ee k c h)
  ·exact .inr h
 have Zr:=D.size
 refine⟨rfl,.slice r (a.length+1) t,a++[⟨i,(jZ part).length,j⟩],A.og,D.trans A.ext (λx m Zs=>absurd (B x m) aa),λk c=>?_,by simp[F],λk s g l u=>?_⟩
 ·rcases H k c with h | h
  ·exact B k h
  ·omega
 ·by_cases T:k<a.length
  ·rw[mW T] at l
   rw[mW aa] at u
   exact (((M k s g l u).hA a1).ext A.ext (λk c=>c.1.2)).dC (λk c=>⟨c.1.1,λy=>by
    rcases H k y with h | h
    ·exact c.1.2 h
    ·have:=c.2;omega⟩)
  ·have y:k=a.length:=by
    have:=(cU.1 l).1
    simp at this;omega
   subst y;rw[kS (cd _),mX] at l
   rw[kS aa,F,mX] at u
   simp only[qu,dz] at l u
   subst l;subst u
   obtain⟨Zt,Zu,U,V⟩:=Rd.fX (E:=bS) (z.has (Has.tail Has.head)) rfl;cases U
   have I:=z.nodup
   refine V.dC (λk c=>⟨?_,λy=>?_⟩)
   ·have W:k∈aB [aD o [Value.slice i (jZ part).length j] 134,own 3 1 (Value.slice i (jZ part).length j) (jZ part).length (bS.all (jZ part)),aD b ([f].set 0 (Value.slice r (a.length+1) t)) 168,own 134 1 (Value.slice r (a.length+1) t) (a.length+1) (gw.all a++putAt (e9 [Value.slice none 0 0] 1) (0*1) (Value.slice i (jZ part).length j).cells.toList)]:=by
     rw[ff,ff];exact cX.2 (.inr (cX.2 (.inl (iV.2 c))))
    rcases e1 k d.heap.size with h | h
    ·exact B k (z.ee k W h)
    ·omega
   ·rw[ff,ff,fK] at I
    have J:=I.2.1
    rw[fK] at J
    exact J.2.2 k (iV.2 c) k y rfl
def xW (w:World) (s:List UInt8):Ending→World→Prop:=λe w'=>
 if gS s=true then ∃A n c,e= .returned (.tuple #[.slice A n c,.bool true])∧Ext [] w w'∧d8 w' (λk=>w.heap.size≤k) A n c (va s)
 else e= .returned (.tuple #[.slice none 0 0,.bool false])∧Ext [] w w'
theorem Se (w:World) (s:List UInt8) (u:s.length≤1000000):
 Calls prog 204 [.string (bs s)].toArray w (xW w s):=by
 have L:=u_ 59 32 s
 refine aW func204 ntmps204 ?_;refine aR ?_;refine ao rfl NK rfl (λw' _=>R_ w' s) ?_;refine ah ?_;refine b2 rfl (λi=>?_) (λi=>?_)
 ·refine aJ ?_
  intro y d;rw[xW,ag (by simpa using i)];exact⟨rfl,d.ext⟩
 ·have z:gS s=true:=by simpa using i
  refine aS ?_;refine r3 LO rfl (λc M N=>?_);refine al ?_;refine pq 134 1 ?_;refine sq (v:= .tuple #[]) (H':=rf w c (va s)) rfl EQ rfl (λw' l=>?_) ?_
  ·refine xV w' 294 #[.pointer (some ⟨c,0,none⟩)] NL (λh w'=>rf w c (List.map jZ h) w') s u 32 a1 ?_ ?_ 59 ?_
   ·rintro h p m e O ⟨P,_⟩
    rw[gb];exact Sd w c (List.map jZ h) p aa (by rw[cN];omega) m e
   ·rintro h m Q e f
    exact e.ext f
   ·refine⟨.slice none 0 0,[],l.swap.og,l.ext,λk a=>?_,rfl,by simp⟩
    rw[ff,ff] at a
    simp[aD,own,aB,Value.ownBlock] at a
    omega
  refine Sb λA e=>?_
  obtain⟨j,b,B,n,C,D,F⟩:=e;refine ha (H':=af A (aB (jB c j b)) (jB c j b)) ?_ (Sub.refl _) (λx f=>f▸B);refine iX (v:=j) (Has.tail Has.head) (λo q G R S T U=>?_);subst G;refine bo ?_;intro y d;rw[xW,ax z];obtain⟨V,W,H,r⟩:=Rd.fX (E:=gw) (d.has (Has.tail Has.head)) rfl;cases H
  have X:=n.size
  have t: ∀k∈aB (jB c (.slice o b.length q) b),w.heap.size≤k:=C
  rw[show b.length=b.length from rfl] at r
  refine⟨o,b.length,q,rfl,n.trans d.ext (λx f Y=>absurd (t x f) aa),b,r.dC (λk a=>t k (by rw[ff,ff];exact cX.2 (.inr (cX.2 (.inl (iV.2 a)))))),D,λk I g J K=>((F k I g J K).ext d.ext (λk a=>a.2)).dC (λk a=>a.1)⟩
theorem d8.len {w:World} {F:Nat→Prop} {A:Option Addr} {n c:Nat} {gs:List (List Int)} (h:d8 w F A n c gs):gs.length=n:=by
 obtain⟨d,a,b,_⟩:=h;rw[←b];exact a.len
theorem d8.xb {w:World} {F:Nat→Prop} {A:Option Addr} {n c:Nat} {gs:List (List Int)} (h:d8 w F A n c gs):n≤c∧c≤maxLen:=by
 obtain⟨b,a,d,_⟩:=h;exact⟨a.cap,a.max⟩
theorem d8.ext {S:List Nat} {w w':World} {F:Nat→Prop} {A:Option Addr} {n c:Nat} {gs:List (List Int)} (h:d8 w F A n c gs) (a:Ext S w w') (b: ∀k,F k→k∉S):d8 w' F A n c gs:=by
 obtain⟨d,e,f,i⟩:=h;exact⟨d,e.ext a b,f,λk s g j l=>(i k s g j l).ext a b⟩
theorem d8.dC {w:World} {F F':Nat→Prop} {A:Option Addr} {n c:Nat} {gs:List (List Int)} (h:d8 w F A n c gs) (a: ∀k,F k→F' k):d8 w F' A n c gs:=by
 obtain⟨b,d,e,f⟩:=h;exact⟨b,d.dC a,e,λk s g i j=>(f k s g i j).dC a⟩
theorem d8.hA {w:World} {F:Nat→Prop} {A:Option Addr} {n c:Nat} {gs:List (List Int)} (h:d8 w F A n c gs):d8 w (λk=>F k∧k<w.heap.size) A n c gs:=by
 obtain⟨a,b,d,e⟩:=h;exact⟨a,b.hA a1,d,λk s g f i=>(e k s g f i).hA a1⟩
theorem d8.at_ {w:World} {F:Nat→Prop} {A:Option Addr} {n c:Nat} {gs:List (List Int)} (h:d8 w F A n c gs) {k:Nat} {g:List Int} (a:gs[k]? = some g):
 ∃bX b m d,A=some bX∧F bX.block∧w.cell? (bX.add (k*1))=some (.slice b m d)∧Rd bS w F b m d g:=by
 obtain⟨e,i,q,j⟩:=h;have r:=(cU.1 a).1
 obtain⟨s,f⟩ : ∃s,e[k]? = some s:=⟨e[k]'aa,bE _⟩;obtain⟨bX,l,o,p⟩:=i.at_ f;refine⟨bX,s.A,s.n,s.c,l,o,?_,j k s g f a⟩;have:=p 0 (.slice s.A s.n s.c) rfl
 simpa [gw,Addr.add] using this
theorem d8.cut {w:World} {F:Nat→Prop} {A:Option Addr} {n c:Nat} {gs:List (List Int)} (h:d8 w F A n c gs) {p q:Nat} (ai:p≤q) (d:q≤n):d8 w F (if c=p then A else A.map (·.add (p*1))) (q - p) (c - p) ((gs.take q).drop p):=by
 obtain⟨e,f,i,j⟩:=h;refine⟨(e.take q).drop p,f.cut ai d,by simp[i],λk s g a b=>?_⟩;rw[mm,is] at a b
 split at a
 rename_i l;rw[ax l] at b
 exact j _ s g a b;cases a
theorem d8.nil (w:World) (F:Nat→Prop):d8 w F none 0 0 []:=⟨[],Rd.nil gw w F 0 a1 none,rfl,by simp⟩
def sL (w:World) (gs:List (List Int)):Ending→World→Prop:=λe w'=> ∃A n c,e= .returned (.slice A n c)∧Ext [] w w'∧d8 w' (λk=>w.heap.size≤k) A n c gs
def Bd (gs:List (List Int)) (w:World) (v:Value) (w':World):Prop:= ∃A n c,v= .slice A n c∧d8 w' (λk=>w.heap.size≤k) A n c gs
theorem sL.Hi {w w':World} {gs:List (List Int)} {e:Ending} (h:sL w gs e w'):ng (Bd gs w) w e w':=by
 obtain⟨A,n,c,rfl,a,b⟩:=h;exact⟨_,rfl,a,A,n,c,rfl,b⟩
def j0 (w:World) (v:Value) (a:List lT) (gs:List (List Int)) (w':World):Prop:=
 af w' (aB [own 134 1 v a.length (gw.all a)]) [own 134 1 v a.length (gw.all a)] w'∧Ext [] w w'∧(∀k∈aB [own 134 1 v a.length (gw.all a)],w.heap.size≤k)∧a.length=gs.length∧
  ∀(k:Nat) (s:lT) (g:List Int),a[k]? = some s→gs[k]? = some g→Rd bS w' (λk=>w.heap.size≤k∧k∉aB [own 134 1 v a.length (gw.all a)]) s.A s.n s.c g
theorem j0.step {w p d l:World} {v m:Value} {b:List lT} {gs:List (List Int)} {s:lT} {g:List Int} {S:List Nat} (B:aB [own 134 1 v b.length (gw.all b)]=S) (h:j0 w v b gs p) (e:Ext S p d)
 (C:af d S [own 134 1 m (b.length+1) (gw.all b++gw.enc s)] l) (D:Rd bS d (λk=>w.heap.size≤k∧k∉S) s.A s.n s.c g):j0 w m (b++[s]) (gs++[g]) l:=by
 obtain⟨H,t,q,u,y⟩:=h;rw[B] at q y
 have o:af d S [own 134 1 m (b++[s]).length (gw.all (b++[s]))] l:=by
  rw[b0,bA.hc gw];exact C
 have I:=t.size
 have J:=e.size
 have r: ∀k,k∈aB [own 134 1 m (b++[s]).length (gw.all (b++[s]))]→k∈S∨d.heap.size≤k:=λk a=>by
  rcases e1 k d.heap.size with h | h
  exact .inl (o.ee k a h);exact .inr h
 have z:Ext S p l:=e.trans o.ext (λx e _=>e)
 refine⟨o.og,t.trans z (λx e K=>absurd (q x e) aa),λk a=>?_,by simp[u],λk E F f i=>?_⟩;rcases r k a with h | h
 exact q k h;omega
 by_cases G:k<b.length
 rw[mW G] at f
 rw[mW aa] at i
 exact (((y k E F f i).hA a1).ext z (λk a=>a.1.2)).dC (λk a=>⟨a.1.1,λj=>by
  rcases r k j with h | h
  exact a.1.2 h;have:=a.2;omega⟩)
 have j:k=b.length:=by
  have:=(cU.1 f).1
  simp at this;omega
 subst j;rw[kS (cd _),mX] at f
 rw[kS aa,u,mX] at i
 simp only[qu,dz] at f i
 subst f;subst i
 exact ((D.hA a1).ext o.ext (λk a=>a.1.2)).dC (λk a=>⟨a.1.1,λj=>by
  rcases r k j with h | h
  exact a.1.2 h;have:=a.2;omega⟩)
theorem j0.ret {w w':World} {v:Value} {a:List lT} {gs:List (List Int)} (h:j0 w v a gs w'): ∃A c,v= .slice A a.length c∧Ext [] w w'∧d8 w' (λk=>w.heap.size≤k) A a.length c gs:=by
 obtain⟨d,e,f,i,j⟩:=h;obtain⟨A,c,l,m⟩:=Rd.fX (E:=gw) (d.has Has.head) rfl;exact⟨A,c,l,e,a,m.dC (λk b=>f k (by rw[ff];exact cX.2 (.inl (iV.2 b)))),i,λk s g n o=>(j k s g n o).dC (λk b=>b.1)⟩
theorem j0.nil {w w':World} (h:af w [] [own 134 1 (.slice none 0 0) 0 []] w'):j0 w (.slice none 0 0) [] [] w':=
 ⟨h.og,h.ext,λk a=>by simp[aB,own,Value.ownBlock] at a,rfl,by simp⟩
theorem j0.later {w c d:World} {v:Value} {a:List lT} {gs:List (List Int)} (h:j0 w v a gs c) (b:af c (aB [own 134 1 v a.length (gw.all a)]) [own 134 1 v a.length (gw.all a)] d):j0 w v a gs d:=by
 obtain⟨p,e,f,i,j⟩:=h;have q:=e.size
 exact⟨b.og,e.trans b.ext (λx l r=>absurd (f x l) aa),f,i,λk s g m n=>(j k s g m n).ext b.ext (λk o=>o.2)⟩
def nD (n:Int):Int:=max (-1) (min n 65535)
def j1 (g:List Int):List Int:=if g=[] then [-1] else (g.take 8).map nD
def fo (gs:List (List Int)):List (List Int):=if gs=[] then [[-1]] else (gs.take 32).map j1
theorem Sf (w:World) (n:Int):Calls prog 385 [.int .i64 n].toArray w (λe w'=>e= .returned (.int .i64 (nD n))∧w'=w):=by
 refine calls (n:=6) func385 rfl ntmps385 rfl ?_;refine cE ?_;intro b a;exact⟨rfl,a⟩
theorem kr {α:Type} {l:List α} {k:Nat} {a:α} (h:l[k]? = some a):l.take (k+1)=l.take k++[a]:=by rw[fU,h];rfl
theorem Sg {P:Program} {n:Nat} {c:Code} {Q:cl} {l:Fr} {H:World→Prop} (h: ∀w,H w→dc P n c Q l (λx=>x=w)):dc P n c Q l H:=
 λw b a d=>h w b w rfl a d
theorem Sh (w:World) (F:Nat→Prop) (A:Option Addr) (n c:Nat) (g:List Int) (f:Rd bS w F A n c g) (O:n≤1000000):
 Calls prog 322 [.slice A n c].toArray w (ia bS w (j1 g)):=by
 have j:=f.len
 have P:=f.cap
 refine aW func322 ntmps322 ?_;refine bH ?_;refine aj (λo=>?_) (λo=>?_);refine ah ?_;intro Q r R;refine al ?_;intro s a;have u:g=[]:=iR aa
 rw[j1,ax u];have y:=Rd.hf (E:=bS) (L:=[-1]) a Has.head rfl a1
 exact⟨_,_,_,rfl,a.ext,y.dC (λk b=>by rw[b];exact r)⟩;refine ah ?_;refine jM 3 1 ?_;refine bo ?_;obtain⟨m,z⟩ : ∃m,m=min n 8:=⟨_,rfl⟩;refine fh 0 m dJ rfl rfl (.inr ⟨rfl,rfl⟩) (.inl ⟨_,_,rfl,rfl,aa⟩) aa aa ?_;have i:=f.cut (p:=0) (q:=m) aa aa
 generalize B: (if c=0 then A else A.map (·.add (0*1)))=C
 rw[show bS.sz=1 from rfl,B] at i
 rw[kh,kh] at *
 rw[n1] at i
 have D: (g.take m).length=m:=by rw[dn];omega
 have G:j1 g=(g.take m).map nD:=by
  rw[j1,ag (λe=>by rw[e] at j;simp at j;omega)];congr 1
  rw[z];by_cases h:n≤8
  rw[iv h,eu aa,eu aa];rw[Nat.min_eq_right aa]
 refine ay ?_;refine b3 (ι:=Nat × Value) (λt=>[(3,t.2),(14,.slice C m c),(15,.int .i64 (m:Int)),(16,.int .i64 (t.1 :Int))]) (λt=>af w [] [own 3 1 t.2 t.1 (bS.all (((g.take m).take t.1).map nD))]) (λt=>t.1≤m) (λt=>m - t.1) ?_ ?_;exact λw' d=>⟨(0,.slice none 0 0),bN _,(cu rfl rfl rfl rfl),d⟩
 rintro⟨k,v⟩ b;dsimp only at b ⊢
 refine al ?_;refine aj (λH=>?_) (λH=>?_);obtain⟨x,l⟩ : ∃x,(g.take m)[k]? = some x:=⟨(g.take m)[k]'aa,bE _⟩;obtain⟨bX,S,_,I⟩:=i.at_ l;refine al ?_;refine bD (q:=k) dJ rfl rfl rfl bz aa aa ?_;refine ba bM rfl rfl (λw' d=>d.ct (I 0 _ rfl) av) ?_;refine al ?_;refine ja rfl Oy rfl (λw' _=>Sf w' x) ?_;refine aq ?_;intro T U V;refine gm dJ rfl rfl rfl bi (λ_=>by exact cz) rfl (ic rfl) (by simp only[maxLen];omega) aa (λJ W=>?_);refine aK ?_;refine bg (k+1,J) bm bm (cu rfl rfl rfl rfl) (λw' d=>?_);dsimp only;rw[kr l,gb,lB,List.map_nil,bA.hc bS];exact d;have K:k=m:=by omega
 subst K;refine bH ?_;intro s a;rw[G];rw[eu aa] at a
 obtain⟨X,Y,M,N⟩:=Rd.fX (E:=bS) (a.has Has.head) (by rw[cN];exact D);exact⟨_,_,_,aX _ M,a.ext,N.dC (λk b=>by
  rcases e1 k w.heap.size with h | h
  have:=a.ee k (by rw[ff];exact cX.2 (.inl (iV.2 b))) h
  cases this
  exact h)⟩
theorem Si (g:List Int): (j1 g).length≤8:=by
 unfold j1;split
 simp
 rw[cN,dn];omega
theorem Be (gs:List (List Int)): (fo gs).length≤32:=by
 unfold fo;split
 simp
 rw[cN,dn];omega
theorem Sj (gs:List (List Int)): ∀g∈fo gs,1≤g.length∧g.length≤8:=by
 intro g a;have b: ∀x:List Int,1≤(j1 x).length:=λx=>by
  unfold j1;split
  simp
  rename_i h;have:x.length≠0:=λe=>h (iR e)
  rw[cN,dn];omega
 unfold fo at a
 split at a
 rw[eL.1 a];simp
 obtain⟨x,_,rfl⟩:=dF.1 a;exact⟨b x,Si x⟩
theorem Bf (w:World) (F:Nat→Prop) (A:Option Addr) (n c:Nat) (gs:List (List Int)) (r:d8 w F A n c gs) (Zq:n≤1000000) (P: ∀g∈gs,g.length≤1000000):
 Calls prog 229 [.slice A n c].toArray w (sL w (fo gs)):=by
 have D:=r.len
 have Zr:=r.xb
 refine aW func229 ntmps229 ?_;refine bH ?_;refine aj (λu=>?_) (λu=>?_);refine ah ?_;intro G Q Zs;refine aq ?_;intro Zt R Zu;refine al ?_;intro T d;have j:gs=[]:=iR aa
 rw[fo,ax j];have l:=Rd.hf (E:=bS) (L:=[-1]) d (Has.tail Has.head) rfl a1
 have U:=Rd.hf (E:=gw) (L:=[⟨some ⟨G,0,none⟩,1,1⟩]) d Has.head rfl (by show 1≤maxLen;decide)
 refine⟨_,_,_,rfl,d.ext,[⟨some ⟨G,0,none⟩,1,1⟩],U.dC (λk a=>by rw[a];exact R),rfl,λk s g y j=>?_⟩;cases k with
 | zero=>
  simp only[qu,dz] at y j
  subst y;subst j
  exact l.dC (λk a=>by rw[a];exact Q)
 | succ k=>simp at y
 refine ah ?_;refine jM 134 1 ?_;refine bo ?_;obtain⟨m,V⟩ : ∃m,m=min n 32:=⟨_,rfl⟩;refine fh 0 m km rfl rfl (.inr ⟨rfl,rfl⟩) (.inl ⟨_,_,rfl,rfl,aa⟩) aa aa ?_;have z:=r.cut (p:=0) (q:=m) aa aa
 generalize Zv: (if c=0 then A else A.map (·.add (0*1)))=W at z
 rw[kh,kh] at *
 rw[n1] at z
 have Zw: (gs.take m).length=m:=by rw[dn];omega
 have X:fo gs=(gs.take m).map j1:=by
  rw[fo,ag (λe=>by rw[e] at D;simp at D;omega)];congr 1
  rw[V];by_cases h:n≤32
  rw[iv h,eu aa,eu aa];rw[Nat.min_eq_right aa]
 have Y:=z.hA
 refine ay ?_;refine b3 (ι:=Nat × Value × List lT) (λt=>[(3,t.2.1),(15,.slice W m c),(16,.int .i64 (m:Int)),(17,.int .i64 (t.1 :Int))]) (λt=>j0 w t.2.1 t.2.2 (((gs.take m).take t.1).map j1)) (λt=>t.1≤m∧t.2.2.length=t.1) (λt=>m - t.1) ?_ ?_;exact λw' b=>⟨(0,.slice none 0 0,[]),⟨bN _,rfl⟩,(cu rfl rfl rfl rfl),j0.nil b⟩
 rintro⟨k,v,f⟩ ⟨a,H⟩;dsimp only at a H ⊢
 refine Sg λI o=>?_
 obtain⟨Z,J,Za,Zx,Zy⟩:=id o;generalize B:aB [own 134 1 v f.length (gw.all f)]=S at *
 have Zz:=J.size
 refine cG (H':=af I S [own 134 1 v f.length (gw.all f)]) ?_ (Sub.refl _) (λx i=>i▸Z);have Zb:=Y.ext J av
 have K: ∀k,k<w.heap.size→k∉S:=λk a C=>by have:=Za k C;omega
 refine al ?_;refine aj (λZc=>?_) (λZc=>?_);obtain⟨x,i⟩ : ∃x,(gs.take m)[k]? = some x:=⟨(gs.take m)[k]'aa,bE _⟩;obtain⟨bX,Zd,p,q,ZA,Ze,Zf,l⟩:=Zb.at_ i;have ZB:=l.len
 have ZC:=P x (iu (c8 i))
 refine al ?_;refine bD (q:=k) km rfl rfl rfl bz aa aa ?_;refine ba ib rfl rfl (λw' b=>b.ct Zf (by rw[block_add];exact K _ Ze.2)) ?_;refine al ?_;refine wo rfl N1 rfl (λw' b=>Sh w' _ Zd p q x (l.ext b.ext (λk a=>K k a.2)) aa) (λZD Zg Zh Zi Zj M Zk ZE N O=>?_);have ZF:=O.len
 have Zl:Ext S I Zg:=M.ext.dU Zk
 have ZG:=M.ext.size
 refine aq ?_;intro ZH ZI ZJ;refine gm km rfl rfl rfl bi (λ_=>by exact cz) rfl (ic rfl) (by simp only[maxLen];omega) aa (λZm ZK=>?_);refine aK ?_;refine bg (k+1,Zm,f++[⟨Zh,Zi,Zj⟩]) ⟨by dsimp only;omega,by simp[H]⟩ bm (cu rfl rfl rfl rfl) (λw' b=>?_);dsimp only;rw[kr i,gb,lB,List.map_nil];rw[B] at b N
 exact j0.step B o Zl b (O.dC (λk a=>⟨aa,λC=>by have:=N k C;omega⟩));have Zn:k=m:=by omega
 subst Zn;refine bH ?_;intro T d;rw[X];rw[eu aa] at o
 subst B;obtain⟨ZL,ZM,Zo,Zp,u⟩:=j0.ret (j0.later o d);exact⟨_,_,_,aX _ Zo,Zp,u⟩
theorem Hj (gs:List (List Int)): ∀g∈fo gs,∃y t,g=y::t∧ -1≤y∧y≤65535:=by
 have c: ∀x:List Int,∃y t,j1 x=y::t∧ -1≤y∧y≤65535:=λx=>by
  unfold j1;split
  exact⟨-1,[],rfl,aa,aa⟩;rename_i h;cases x with
  | nil=>exact absurd rfl h
  | cons a x=>exact⟨nD a,_,rfl,by unfold nD;omega,by unfold nD;omega⟩
 intro g b;unfold fo at b
 split at b
 rw[eL.1 b];exact⟨-1,[],rfl,aa,aa⟩
 obtain⟨x,_,rfl⟩:=dF.1 b;exact c x
def vb (g:List Int):Int:=g.headD (-1)
def mI (a:List (List Int)) (i:Int):Int:=if 0≤i∧i<(a.length:Int) then vb (a.getD i.toNat []) else -1
def oV (gs:List (List Int)) (i a:Int):Int:=if mI (fo gs) i= -1 then a else mI (fo gs) i
theorem Sk {a:List (List Int)} {k:Nat} {y:Int} {t:List Int} (h:a[k]? = some (y::t)):mI a (k:Int)=y:=by
 have b:=(cU.1 h).1
 rw[mI,ax aa];simp[vb,List.getD,h]
theorem Hk (w:World) (F:Nat→Prop) (A:Option Addr) (n c:Nat) (gs:List (List Int)) (G:d8 w F A n c gs) (H:n≤1000000) (I: ∀g∈gs,g.length≤1000000) (i s:Int):
 Calls prog 166 [.slice A n c,.int .i64 i,.int .i64 s].toArray w (λe w'=>e= .returned (.int .i64 (oV gs i s))∧Ext [] w w'):=by
 refine aW func166 ntmps166 ?_;refine aK ?_;refine mx (R:=λu=>Bd (fo gs) u) rfl zM rfl (λw' a=>(Bf w' F A n c gs (G.ext a.ext av) H I).mono (λe O h=>h.Hi)) ?_;rintro u J v K L P Q ⟨S,T,c1,rfl,z⟩;have f:Ext [] w J:=K.ext.dU L
 have U:=z.len
 refine aJ ?_;refine aV 12 rfl (λj=>?_) (λj=>?_);have M:=aY j
 refine lJ ?_;intro l b;exact⟨by rw[oV,ax (show mI (fo gs) i= -1 by rw[mI,ag aa])],f.dU (b.ext.mono (λx d _=>by simp[aB] at d))⟩;have M:=a8 j
 refine aR ?_;refine aV 18 rfl (λm=>?_) (λm=>?_);have N:=aY m
 refine hh ?_;intro l b;exact⟨by rw[oV,ax (show mI (fo gs) i= -1 by rw[mI,ag aa])],f.dU (b.ext.mono (λx d _=>by simp[aB] at d))⟩;have N:=a8 m
 obtain⟨k,rfl⟩ : ∃k:Nat,i=k:=⟨i.toNat,aa⟩;obtain⟨g,o⟩ : ∃g,(fo gs)[k]? = some g:=⟨(fo gs)[k]'aa,bE _⟩;obtain⟨bX,X,p,q,V,_,B,C⟩:=z.at_ o;obtain⟨y,t,rfl,W,Y⟩:=Hj gs g (c8 o);have ai:=C.len
 simp only[eK] at ai
 obtain⟨Z,Za,_,D⟩:=C.at_ (k:=0) rfl;have E:=Sk o
 refine ay ?_;refine bD (q:=k) km rfl rfl rfl bz aa aa ?_;refine aq ?_;refine ba ib rfl rfl (λw' a=>a.ct B (by simp[aB])) ?_;refine aq ?_;refine bD (q:=0) dJ rfl rfl rfl bz aa aa ?_;refine aq ?_;refine ba bM rfl rfl (λw' a=>a.ct (D 0 _ rfl) (by simp[aB])) ?_;refine ay ?_;refine aj (λr=>?_) (λr=>?_);refine aJ ?_;intro l b;exact⟨by rw[oV,E,ax r],f.dU (b.ext.mono (λx d _=>by simp[aB] at d))⟩;refine al ?_;refine bD (q:=k) km rfl rfl rfl bz aa aa ?_;refine ba ib rfl rfl (λw' a=>a.ct B (by simp[aB])) ?_;refine bD (q:=0) dJ rfl rfl rfl bz aa aa ?_;refine ba bM rfl rfl (λw' a=>a.ct (D 0 _ rfl) (by simp[aB])) ?_;refine ay ?_;intro l b;exact⟨by rw[oV,E,ag r],f.dU (b.ext.mono (λx d _=>by simp[aB] at d))⟩
def vc (gs:List (List Int)):List Int:=(fo gs).map (λg=>max 0 (vb g))
theorem Sl (w:World) (F:Nat→Prop) (A:Option Addr) (n c:Nat) (gs:List (List Int)) (r:d8 w F A n c gs) (s:n≤1000000) (x: ∀g∈gs,g.length≤1000000):
 Calls prog 230 [.slice A n c].toArray w (ia bS w (vc gs)):=by
 have L:=Be gs
 refine aW func230 ntmps230 ?_;refine al ?_;refine jM 3 1 ?_;refine aK ?_;refine mx (R:=λj=>Bd (fo gs) j) rfl zM rfl (λw' a=>(Bf w' F A n c gs (r.ext a.ext av) s x).mono (λe M h=>h.Hi)) ?_;rintro j f v z B N O ⟨C,b,c1,rfl,l⟩;have m:Ext [] w f:=z.ext.dU B
 have P:=l.len
 have D:aB [own 3 1 (.slice none 0 0) 0 []]=[]:=by simp[aB,own,Value.ownBlock]
 rw[D];refine ay ?_;refine b3 (ι:=Nat × Value) (λt=>[(3,t.2),(7,.slice C b c1),(8,.int .i64 (b:Int)),(9,.int .i64 (t.1 :Int))]) (λt=>af f [] [own 3 1 t.2 t.1 (bS.all (((fo gs).take t.1).map (λg=>max 0 (vb g))))]) (λt=>t.1≤b) (λt=>b - t.1) ?_ ?_;exact λw' a=>⟨(0,.slice none 0 0),bN _,(cu rfl rfl rfl rfl),a⟩
 rintro⟨k,u⟩ E;dsimp only at E ⊢
 refine al ?_;refine aj (λG=>?_) (λG=>?_);obtain⟨g,d⟩ : ∃g,(fo gs)[k]? = some g:=⟨(fo gs)[k]'aa,bE _⟩;obtain⟨bX,X,p,q,Q,_,H,o⟩:=l.at_ d;obtain⟨y,t,rfl,S,T⟩:=Hj gs g (c8 d);have ai:=o.len
 simp only[eK] at ai
 obtain⟨U,V,_,I⟩:=o.at_ (k:=0) rfl;refine al ?_;refine bD (q:=k) km rfl rfl rfl bz aa aa ?_;refine ba ib rfl rfl (λw' a=>a.ct H av) ?_;refine al ?_;refine bD (q:=0) dJ rfl rfl rfl bz aa aa ?_;refine ba bM rfl rfl (λw' a=>a.ct (I 0 _ rfl) av) ?_;refine ar ?_;intro W Y Z;refine gm dJ rfl rfl rfl bi (λ_=>by exact cz) rfl (ic rfl) (by simp only[maxLen];omega) aa (λJ Za=>?_);refine aK ?_;refine bg (k+1,J) bm bm (cu rfl rfl rfl rfl) (λw' a=>?_);dsimp only;rw[kr d,gb,lB,List.map_nil,bA.hc bS];exact a;have K:k=b:=by omega
 subst K;rw[eu aa];refine bH ?_;intro Zb i;refine ia.fX (m.dU i.ext) (i.has Has.head) (by rw[vc,cN];omega) (λg d=>?_);have Zc:=m.size
 rcases e1 g f.heap.size with h | h
 exact absurd (i.ee g (by rw[ff];exact cX.2 (.inl (iV.2 d))) h) av;omega
structure iK where
 dg:Int
 fn:Int
 an:Int
 aM:Int
 fl:Int
deriving DecidableEq
abbrev s8 (a:iK):Value:= .agg [.int .i64 a.dg,.int .i64 a.fn,.int .i64 a.an,.int .i64 a.aM,.int .i64 a.fl].toArray
abbrev p_ (k n:Int):Value:= .agg [.int .i64 k,.int .i64 n].toArray
theorem s9 {z:Int} (a:0≤z) (b:z<9223372036854775808):IntKind.i64.wrap z=z:=by simp[IntKind.wrap,IntKind.bits,IntKind.signed];omega
def mJ (gs:List (List Int)):Prop:=gs.length≤32∧ ∀g∈gs,1≤g.length∧g.length≤8∧ ∀x∈g,-1≤x∧x≤65535
def v0 (g:List Int):Int:=max 0 (g.headD 0)
def nE (gs:List (List Int)) (i:Nat):Int:=match gs[i]? with | some g=>v0 g | none=>0
theorem mJ.at_ {gs:List (List Int)} (h:mJ gs) {i:Nat} {g:List Int} (b:gs[i]? = some g): ∃x t,g=x::t∧ -1≤x∧x≤65535∧t.length≤7:=by
 have a:=h.2 g (c8 b)
 cases g with
 | nil=>exact absurd a.1 av
 | cons x t=>exact⟨x,t,rfl,(a.2.2 x av).1,(a.2.2 x av).2,by have:=a.2.1;simp at this;omega⟩
theorem Sm {gs:List (List Int)} (h:mJ gs) (i:Nat):0≤nE gs i∧nE gs i≤65535:=by
 unfold nE;cases a:gs[i]? with
 | none=>simp
 | some g=>
  obtain⟨x,t,rfl,b,c,_⟩:=h.at_ a;simp only[v0,List.headD_cons];omega
theorem Bg (w:World) (F:Nat→Prop) (A:Option Addr) (n c:Nat) (gs:List (List Int)) (h:d8 w F A n c gs) (m:mJ gs) (i:Nat) (hi:i≤1000):
 Calls prog 392 [.slice A n c,.int .i64 (i:Int)].toArray w (λe w'=>e= .returned (.int .i64 (nE gs i))∧Ext [] w w'):=by
 have u:=h.len
 refine aW func392 ntmps392 ?_;refine bH ?_;refine aV 9 rfl (λb=>?_) (λb=>?_);have o:=aY b
 refine eT ?_;intro r d;exact⟨by rw[nE,kg aa],d.ext⟩;have o:=a8 b
 obtain⟨g,f⟩ : ∃g,gs[i]? = some g:=⟨gs[i]'aa,bE _⟩;obtain⟨bX,X,p,q,v,_,j,l⟩:=h.at_ f;obtain⟨y,t,rfl,x,z,B⟩:=m.at_ f;have ai:=l.len
 simp only[eK] at ai
 obtain⟨C,D,_,s⟩:=l.at_ (k:=0) rfl;refine ay ?_;refine bD (q:=i) km rfl rfl rfl bz aa aa ?_;refine aq ?_;refine ba ib rfl rfl (λw' a=>a.ct j (by simp[aB])) ?_;refine aC ?_;refine fL rfl ((cm aa)) ?_;refine al ?_;refine bD (q:=i) km rfl rfl rfl bz aa aa ?_;refine ba ib rfl rfl (λw' a=>a.ct j (by simp[aB])) ?_;refine bD (q:=0) dJ rfl rfl rfl bz aa aa ?_;refine ba bM rfl rfl (λw' a=>a.ct (s 0 _ rfl) (by simp[aB])) ?_;refine al ?_;intro r d;exact⟨by rw[nE,f];rfl,d.ext⟩
end Go.Proofs.YtkeokgcdnfjaaaaGreatDoor.Mq.cr
