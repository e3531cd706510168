/- part 26 of the proof -/
import Derived.Test.YtkeokgcdnfjaaaaGreatDoorQ09
import Derived.Shelf.Strconv.Itoa3
import Derived.Lib.ItoaLen
import Derived.Lib.Join
import Derived.Lib.JoinLaws
import Derived.Lib.AtoiAllCases
import Derived.Lib.ParseIntBCases
import Derived.Shelf.Strings.Split
import Derived.Shelf.GgClosure.StringsIndexFuncTop
import Derived.Lib.ConvBytes
import Derived.Lib.AtoiErrMem
import Derived.Laws.AppendOwn
import Derived.Shelf.Strconv.ErrVarAll
import Derived.Shelf.Lays2
import Derived.WideLaws
import Derived.Stop.IfaceNil
import Derived.HandedShaped
import Derived.Handed
import Derived.Shelf.Vars
namespace Go.Proofs.YtkeokgcdnfjaaaaGreatDoor.Mq.Os
open Go Go.RowKit Go.Proofs Tryz
section
def fv (w:World):Prop:=Lib.TabIs prog w "internal/strconv.uint64pow10" .u64 Lib.pow10Tab
theorem vk {P:Program} {w w':World} {nm:String} {k:IntKind} {b:List Int} (h:Lib.TabIs P w nm k b) (c:Ext [] w w'):Lib.TabIs P w' nm k b:=by
 unfold Lib.TabIs World.var? at *
 obtain⟨g,d,a⟩:=lD.1 h;refine lD.2 ⟨g,d,?_⟩;have e:g<w.heap.size:=by
  rcases e1 g w.heap.size with h | h
  exact h;rw[rH h] at a;cases a
 rw[c.block g e av];exact a
theorem fv.ext {w w':World} (h:fv w) (a:Ext [] w w'):fv w':=vk h a
theorem ad9: ∀(u:Nat),∀c∈Lib.decDigits u,48≤c.toNat∧c.toNat≤57:=by
 intro u;induction u using Nat.strongRecOn with
 | _ u b=>
  intro c a;rw[Lib.decDigits] at a
  split at a
  simp only[eL] at a
  subst a;simp
  omega
  rcases cX.1 a with h | h
  exact b (u/10) aa c h;simp only[eL] at h
  subst h;simp
  omega
def vn (l:List UInt8):Nat:=l.foldl (λa c=>10*a+(c.toNat - 48)) 0
def jD:bA (List UInt8):=⟨λs=>[.string (bs s)],1,λ_=>rfl,λ_=>aI.cons rfl aI.nil⟩
theorem p9: ∀(l:List UInt8) (c:UInt8),(c∉l∧Lib.indexByte l c= -1)∨ ∃pre d,l=pre++c::d∧c∉pre∧Lib.indexByte l c=(pre.length:Int)
 | [],c=> .inl ⟨by simp,rfl⟩
 | b::l,c=>by
  by_cases a:b=c
  subst a;exact .inr ⟨[],l,rfl,by simp,by simp[Lib.indexByte]⟩;rcases p9 l c with ⟨e,f⟩ | ⟨pre,d,e,f,g⟩
  exact .inl ⟨by simp[e,Ne.symm a],by simp[Lib.indexByte,a,f]⟩;refine .inr ⟨b::pre,d,by rw[e];rfl,by simp[f,Ne.symm a],?_⟩;have: ¬((pre.length:Int)= -1):=by omega
  simp[Lib.indexByte,a,g,this]
theorem oU {pre post:List UInt8} {sep:UInt8} (h:sep∉pre): (pre++sep::post).takeWhile (· ≠sep)=pre∧((pre++sep::post).dropWhile (· ≠sep)).drop 1=post:=by
 induction pre with
 | nil=>simp
 | cons c pre b=>
  have d:c≠sep:=λe=>h (by simp[e])
  have a:=b (λf=>h (by simp[f]))
  have ak:decide (c≠sep)=true:=b1 d
  rw[mi,List.takeWhile_cons_of_pos (p:=λx=>decide (x≠sep)) ak,List.dropWhile_cons_of_pos (p:=λx=>decide (x≠sep)) ak,a.1];exact⟨rfl,a.2⟩
def fE (a:UInt8):List UInt8→List (List UInt8)
 | []=>[[]]
 | c::s=>if c=a then []::fE a s else match fE a s with
  | []=>[[c]]
  | p::b=>(c::p)::b
theorem TS (a:UInt8) (s:List UInt8):fE a s≠[]:=by
 cases s with
 | nil=>simp[fE]
 | cons c s=>unfold fE;split <;> (try split) <;> simp
theorem TT {sep:UInt8} {pre:List UInt8} (h:sep∉pre) (post:List UInt8):fE sep (pre++sep::post)=pre::fE sep post:=by
 induction pre with
 | nil=>simp[fE]
 | cons c pre a=>
  have b: ¬c=sep:=λe=>h (by simp[e])
  rw[mi,fE,ag b,a (λd=>h (by simp[d]))]
theorem TU {sep:UInt8} {s:List UInt8} (h:sep∉s):fE sep s=[s]:=by
 induction s with
 | nil=>rfl
 | cons c s a=>
  have b: ¬c=sep:=λe=>h (by simp[e])
  rw[fE,ag b,a (λd=>h (by simp[d]))]
def j8 (a:Nat) (c:UInt8):Nat:=10*a+(c.toNat - 48)
theorem B5 (l:List UInt8):vn l=l.foldl j8 0:=rfl
theorem Im: ∀(l:List UInt8) (a:Nat),a≤l.foldl j8 a
 | [],_=>cd _
 | c::l,a=>by rw[rL];exact fp (by unfold j8;omega) (Im l _)
def o7 (c:UInt8):Bool:=decide (48≤c.toNat∧c.toNat≤57)
def In (n:Int):Prop:= -9223372036854775808≤n∧n≤9223372036854775807
instance (n:Int):Decidable (In n):=by unfold In;exact inferInstance
theorem Io: ∀(l:List UInt8) (a:Nat),(∀c∈l,o7 c=true)→l.foldl j8 a<18446744073709551616→Lib.parseUint10 a l= .ok (l.foldl j8 a)
 | [],_,_,_=>rfl
 | c::r,a,ak,b=>by
  have d:=aY (ak c av)
  rw[rL] at b ⊢
  have g:=Im r (j8 a c)
  have h:10*a≤j8 a c:=by unfold j8;omega
  have e:a*10+(c.toNat - 48)=j8 a c:=by unfold j8;omega
  unfold Lib.parseUint10;rw[ax d,ag aa,ag aa,e];exact Io r _ (λx f=>ak x (by simp[f])) b
def Ip:Shelf.Ren:=⟨λ| 138=>428 | 143=>429 | 146=>335 | 195=>446 | 197=>447 | 217=>405 | 218=>448 | 219=>426 | 221=>398 | 224=>444 | 225=>443 | 260=>459 | 266=>434 | 267=>445 | 268=>427 | 314=>458 | n=>n,λ| 0=>0 | 3=>3 | 4=>4 | 5=>5 | 9=>9 | 21=>21 | 31=>321 | 46=>258 | 51=>89 | 105=>444 | 119=>458 | 138=>460 | 139=>461 | 146=>450 | n=>n,λ| 1=>1 | 3=>3 | 4=>4 | n=>n⟩
theorem TV:Lays.n146 prog Ip where
 mixed:=by kernel_rfl
 f138:=func428.trans (aX some ab)
 f143:=func429.trans (aX some ab)
 f146:=func335.trans (aX some ab)
 f195:=func446.trans (aX some ab)
 f197:=func447.trans (aX some ab)
 f217:=func405.trans (aX some ab)
 f218:=func448.trans (aX some ab)
 f219:=func426.trans (aX some ab)
 f221:=func398.trans (aX some ab)
 f224:=func444.trans (aX some ab)
 f225:=func443.trans (aX some ab)
 f260:=func459.trans (aX some ab)
 f266:=func434.trans (aX some ab)
 f267:=func445.trans (aX some ab)
 f268:=func427.trans (aX some ab)
 f314:=func458.trans (aX some ab)
 t0:=underlying0
 a0:=isAgg0
 z0:=sizeOf0
 v0:=zeroValue0
 t3:=underlying3
 a3:=isAgg3
 z3:=sizeOf3
 v3:=zeroValue3
 t4:=underlying4
 a4:=isAgg4
 z4:=sizeOf4
 v4:=zeroValue4
 t5:=underlying5
 a5:=isAgg5
 z5:=sizeOf5
 v5:=zeroValue5
 t9:=underlying9
 a9:=isAgg9
 z9:=sizeOf9
 v9:=zeroValue9
 t21:=underlying21
 a21:=isAgg21
 z21:=sizeOf21
 v21:=zeroValue21
 t31:=underlying321
 a31:=isAgg321
 z31:=sizeOf321
 v31:=zeroValue321
 t46:=underlying258
 a46:=isAgg258
 z46:=sizeOf258
 v46:=zeroValue258
 t51:=underlying89
 a51:=isAgg89
 z51:=sizeOf89
 v51:=zeroValue89
 t105:=underlying444
 a105:=isAgg444
 z105:=sizeOf444
 v105:=zeroValue444
 t119:=underlying458
 a119:=isAgg458
 z119:=sizeOf458
 t138:=underlying460
 a138:=isAgg460
 z138:=sizeOf460
 v138:=zeroValue460
 t139:=underlying461
 a139:=isAgg461
 z139:=sizeOf461
 v139:=zeroValue461
 t146:=underlying450
 a146:=isAgg450
 z146:=sizeOf450
 v146:=zeroValue450
 g1:=by kernel_rfl
 g3:=by kernel_rfl
 g4:=by kernel_rfl
theorem TW:ad prog 335:=ad.of func335 ab ab
theorem index_one (c:UInt8): ∀s:List UInt8,Lib.index s [c]=Lib.indexByte s c
 | []=>rfl
 | b::l=>by
  have e: [c].isPrefixOf (b::l)=(b == c):=by
   show (c == b && List.isPrefixOf [] l)=(b == c)
   rw[show List.isPrefixOf [] l=true by cases l <;> rfl,qt];by_cases h:b=c
   rw[h];rw[beq_eq_false_iff_ne.2 h,beq_eq_false_iff_ne.2 (λe=>h e.symm)]
  unfold Lib.index Lib.indexByte;rw[e,index_one c l]
theorem Iq (c:UInt8) (d:Nat) (g:d=0): ∀(m:Nat) (s:List UInt8),s.length≤m→Lib.splitK [c] d (s.count c) s=fE c s
 | m,s,e=>by
  subst g;rcases p9 s c with ⟨f,a⟩ | ⟨pre,b,rfl,a,h⟩
  rw[List.count_eq_zero_of_not_mem f,TU f];rfl
  have i: (pre++c::b).count c=b.count c+1:=by
   rw[List.count_append,List.count_eq_zero_of_not_mem a,List.count_cons_self];omega
  rw[i,TT a];unfold Lib.splitK;rw[index_one,h,ag av];cases m with
  | zero=>simp at e
  | succ m=>
   have j: ((pre.length:Int)).toNat=pre.length:=by omega
   rw[j,Nat.add_zero,rS,iS,←mj,List.drop_left',List.drop_one,List.tail_cons,Iq c 0 rfl m b (by simp at e;omega)];rfl
   rfl
theorem TX (w:World) (o:Obj):Ext [] w (w.alloc o):=by
 refine⟨rfl,rfl,rfl,?_,λb a _=>?_⟩;show w.heap.size≤(w.heap.push o).size
 rw[Array.size_push];omega
 show (w.heap.push o)[b]? = w.heap[b]?
 rw[Array.getElem?_push,ag (Nat.ne_of_lt a)]
def rp (w:World):Prop:= ∃m:Int,w.cell? ⟨Ip.g 1,0,none⟩=some (.int .i64 m)
theorem rp.ext {w w':World} (h:rp w) (b:Ext [] w w'):rp w':=by
 obtain⟨m,a⟩:=h;exact⟨m,by rw[b.cell (World.block_lt_of_cell? _ _ a) av];exact a⟩
theorem TY (w:World) (g:rp w) (s:List UInt8) (c:UInt8) (q:s.length≤1000000):
 Calls prog 335 [.string (bs s),.string (bs [c])].toArray w (ia jD w (fE c s)):=by
 obtain⟨m,h⟩:=g;refine (Any.strings_Split TV ab (bs s) (bs [c]) m w (by rw[hz];omega) h (by rw[hz];exact cd 1)).mono ?_;rintro e w' ⟨rfl,rfl⟩;have b:Lib.countB (bs s) (bs [c])=s.count c:=Lib.count_one c s
 have i: (Lib.splitB (bs [c]) 0 (s.count c) (bs s)).map (·.data.toList)=fE c s:=by
  rw[Lib.splitB_data];exact Iq c 0 rfl _ s (cd _)
 have d: (Lib.splitB (bs [c]) 0 (s.count c) (bs s))=(fE c s).map bs:=by
  rw[←i,n4];conv=>lhs;rw[←List.map_id (Lib.splitB (bs [c]) 0 (s.count c) (bs s))]
  exact tY λx _=>(Lq x).symm
 have l: (fE c s).length=s.count c+1:=by
  have:=Lib.splitB_all (bs [c]) (by rw[hz];exact cd 1) 0 (s.count c) (bs s) b
  rw[d,cN] at this
  exact this
 have r:s.count c≤s.length:=List.count_le_length
 refine⟨_,_,_,rfl,TX _ _,?_⟩;rw[b,d];refine⟨l,cd _,by simp only[maxLen];omega,λ_=>⟨_,rfl,cd _,λk a j u n f=>?_⟩⟩;have o:j=0∧u= .string (bs a):=by
  cases j with
  | zero=>exact⟨rfl,by simpa [jD] using f.symm⟩
  | succ j=>simp[jD] at f
 obtain⟨rfl,rfl⟩:=o;have p: ((((fE c s).map bs).map Value.string).toArray)[k]? = some (Value.string (bs a)):=by
  rw[List.getElem?_toArray,eJ,eJ,n];rfl
 rw[Addr.add_lit,Addr.add_lit,World.cell?_alloc_new,show 0+k*jD.sz+0=k from by show 0+k*1+0=k;omega];exact p
theorem xT:ad prog 405:=ad.of func405 ab ab
theorem A7:ad prog 426:=ad.of func426 ab ab
theorem A8:ad prog 397:=ad.of func397 ab ab
theorem xU (w:World) (s:List UInt8) (c:UInt8):
 Calls prog 405 [.string (bs s),.int .u8 (c.toNat:Int)].toArray w (λe w'=>e= .returned (.int .i64 (Lib.indexByte s c))∧w'=w):=by
 refine calls (n:=8) func405 rfl ntmps405 rfl ?_;refine aJ ?_;refine wX rfl rfl (λa _=>Ft func434 ab ab ab ab s c a) ?_;refine ay ?_;intro d b;exact⟨rfl,b⟩
theorem A9 (w:World) (s:List UInt8) (c:UInt8):
 Calls prog 426 [.string (bs s),.string (bs [c])].toArray w (λe w'=>e= .returned (.int .i64 (Lib.indexByte s c))∧w'=w):=by
 refine calls (n:=143) func426 rfl ntmps426 rfl ?_;refine eG ?_;refine cA rfl rfl av ?_;refine aq ?_;refine cA rfl rfl av ?_;refine aq ?_;refine cA rfl rfl av ?_;refine aq ?_;refine kj rfl rfl av rfl ?_;refine ah ?_;refine aj (λb=>?_) (λb=>?_);refine aJ ?_;intro d a;refine⟨?_,a⟩;rw[←b];simp[Lib.indexByte]
 refine aC ?_;refine ev rfl (av) ?_;refine aS ?_;refine hZ (q:=0) underlying9 rfl rfl rfl a7 (rfl: [c][0]? = some c) ?_;refine ja rfl xT rfl (λw' _=>xU w' s c) ?_;refine aC ?_;intro d a;exact⟨rfl,a⟩
def iJ (s:List UInt8) (c:UInt8):Value:=if c∈s then .tuple #[.string (bs (s.takeWhile (· ≠c))),.string (bs ((s.dropWhile (· ≠c)).drop 1)),.bool true] else .tuple #[.string (bs s),.string (bs []),.bool false]
theorem A_ (w:World) (s:List UInt8) (c:UInt8) (l:s.length≤1000000):
 Calls prog 397 [.string (bs s),.string (bs [c])].toArray w (λe w'=>e= .returned (iJ s c)∧Ext [] w w'):=by
 refine aW func397 ntmps397 ?_;refine bw ?_;refine ja rfl A7 rfl (λw' _=>A9 w' s c) ?_;refine aJ ?_;rcases p9 s c with ⟨j,a⟩ | ⟨pre,f,b,g,a⟩
 rw[a];refine bH ?_;intro k d;exact⟨by rw[iJ,ag j],d.ext⟩;rw[a];refine ev rfl (av) ?_;have m:pre.length+1≤s.length:=by rw[b];simp
 refine aq ?_;refine bG [0,1,2,3,4,5,6,7,8,9,10,11] 0 [[]] ?_;refine ar ?_;refine aL rfl (λh i=>(pv pre.length underlying9 rfl rfl rfl a7 aa aG)) ?_;refine aS ?_;refine aL rfl (λh i=>(gH (r:=((pre.length+1 :Nat):Int)) rfl rfl rfl (by rw[wrap64 (by simp;omega) (by simp;omega)];simp) aG)) ?_;refine aL rfl (λh i=>(pu (pre.length+1) underlying9 rfl rfl rfl a7 aa aG)) ?_;refine aJ ?_;intro k d;refine⟨?_,d.ext⟩;rw[iJ,ax (by rw[b];simp),b,(oU g).1,(oU g).2,rS,show pre++c::f=(pre++[c])++f by simp,List.drop_left'] <;> simp
theorem Ba (w:World) (s:List UInt8) (c:UInt8) (a:s.length≤1000000):
 Calls prog 334 [.string (bs s),.string (bs [c])].toArray w (λe w'=>e= .returned (iJ s c)∧Ext [] w w'):=by
 refine aW func334 ntmps334 ?_;refine bo ?_;refine ao rfl A8 rfl (λw' _=>A_ w' s c a) ?_;obtain⟨x,y,b,d⟩ : ∃x y b,iJ s c= .tuple #[.string x,.string y,.bool b]:=by unfold iJ;split <;> exact⟨_,_,_,rfl⟩
 rw[d];refine aR ?_;intro g f;exact⟨rfl,f.ext⟩
theorem TZ:ad prog 342:=ad.of func342 ab ab
theorem Ir:ad prog 407:=ad.of func407 ab ab
theorem Is (w:World) (s p:List UInt8) (f:s.length≤9223372036854775807) (ai:p.length≤9223372036854775807):Calls prog 407 [.string (bs s),.string (bs p)].toArray w (λe w'=>e= .returned (.bool (decide (s.take p.length=p)))∧Ext [] w w'):=by
 refine aW func407 ntmps407 ?_;refine bH ?_;refine aV 10 rfl (λa=>?_) (λa=>?_);have c:=aY a
 refine aC ?_;refine pv p.length underlying9 rfl rfl rfl a7 aa ?_;refine aR ?_;intro d b;exact⟨rfl,b.ext⟩;have c:=a8 a
 refine bw ?_;intro d b;refine⟨?_,b.ext⟩;rw[cm (λe=>c (by have:=aX List.length e;simp at this;omega))]
theorem T0 (w:World) (s p:List UInt8) (b:s.length≤9223372036854775807) (ai:p.length≤9223372036854775807):Calls prog 342 [.string (bs s),.string (bs p)].toArray w (λe w'=>e= .returned (.tuple #[.string (bs (if s.take p.length=p then s.drop p.length else s)),.bool (decide (s.take p.length=p))])∧Ext [] w w'):=by
 refine aW func342 ntmps342 ?_;refine bo ?_;refine ao rfl Ir rfl (λw' _=>Is w' s p b ai) ?_;refine ah ?_;by_cases h:s.take p.length=p
 refine fL rfl ((by rw[b1 h];rfl)) ?_;have d:p.length≤s.length:=by have:=aX List.length h;simp at this;omega
 refine aC ?_;refine pu p.length underlying9 rfl rfl rfl a7 aa ?_;refine al ?_;intro c a;exact⟨by rw[ax h,b1 h],a.ext⟩;refine ev rfl ((by rw[cm h];rfl)) ?_;refine aR ?_;intro c a;exact⟨by rw[ag h,cm h],a.ext⟩
theorem It (w:World) (s p:List UInt8) (a:s.length≤9223372036854775807) (ai:p.length≤9223372036854775807):Calls prog 261 [.string (bs s),.string (bs p)].toArray w (λe w'=>e= .returned (.tuple #[.string (bs (if s.take p.length=p then s.drop p.length else s)),.bool (decide (s.take p.length=p))])∧Ext [] w w'):=by
 refine aW func261 ntmps261 ?_;refine aR ?_;refine ao rfl TZ rfl (λw' _=>T0 w' s p a ai) ?_;refine aK ?_;intro c b;exact⟨rfl,b.ext⟩
theorem Iu (s:UInt8): ∀t:List UInt8,∀x∈fE s t,s∉x∧x.length≤t.length
 | [],x,a=>by rw[fE,eL] at a;subst a;simp
 | c::t,x,a=>by
  have b:=Iu s t
  unfold fE at a
  split at a
  rcases eD.1 a with rfl | a
  simp
  have:=b x a;exact⟨this.1,by rw[eK];omega⟩
  rename_i e;cases d:fE s t with
  | nil=>exact absurd d (TS s t)
  | cons p g=>
   rw[d] at a b
   dsimp only at a
   rcases eD.1 a with rfl | a
   have:=b p av
   refine⟨λf=>?_,by rw[eK,eK];omega⟩;rcases eD.1 f with h | h
   exact e h.symm;exact this.1 h;have:=b x (by simp[a]);exact⟨this.1,by rw[eK];omega⟩
def jn (g:Nat) (e:TypeId) (xs:List Value):Chunk where
 ce:=[g]
 pred w:= ∃am a,w.heap[g]? = some (.cells am e a)∧xs.length≤a.1∧am.toList.take xs.length=xs
 low w h k c:=by
  simp only[eL] at c
  subst c
  obtain⟨am,a,b,_⟩:=h
  exact (lz.1 b).1
 loc w w' h ai:=by
  obtain⟨am,a,b,d⟩:=ai
  exact⟨am,a,by rw[h g av];exact b,d⟩
theorem T1 {am xs:List Value} (h:am.take xs.length=xs) {o:Nat} {v:Value} (a:xs[o]? = some v):am[o]? = some v:=by
 have b:=(cU.1 a).1
 rw[←h,is] at a
 rwa [ax b] at a
section
variable {b:World} {S:List Nat} {cs:List Chunk} {w:World}
theorem af.Iv (h:af b S cs w) {g e:Nat} {xs:List Value} (a:Has cs (jn g e xs)) {o:Nat} {v:Value} (c:xs[o]? = some v):w.cell? ⟨g,o,none⟩=some v:=by
 obtain⟨am,d,f,j,i⟩:=h.has a;rw[cell_of_row w g o am e d f];have:=T1 i c
 rwa [Array.getElem?_toList] at this
theorem Rd.Iw {α:Type} {E:bA α} {L:List α} (h:af b S cs w) {g e c:Nat} (d:Has cs (jn g e (E.all L))) (f:L.length≤c) (i:c≤maxLen):Rd E w (λk=>k=g) (some ⟨g,0,none⟩) L.length c L:=by
 refine⟨rfl,f,i,λ_=>⟨_,rfl,rfl,λk a j u l m=>?_⟩⟩;have:=af.Iv h d (E.lE l m)
 rw[Addr.add_lit,Addr.add_lit,dG];exact this
theorem af.T2 (h:af b S cs w) (e:Nat) (s:List UInt8):af b S (jn w.heap.size e (cy.all s)::cs) (Lib.bytesWorld w e (bs s)):=by
 have a: (cy.all s).length=s.length:=by rw[cy.dH];exact Nat.mul_one _
 refine h.add (Ext.r0 (Lib.bytesWorld_below w e (bs s))) ⟨_,_,Lib.bytesWorld_at_new w e (bs s),?_,?_⟩ (by simp[jn]) (by simp[jn]);show (cy.all s).length≤(Lib.bytesCells w e (bs s)).size
 rw[a];simp[Lib.bytesCells]
 rw[a];have d:cy.all s=s.map (λb=>Value.int .u8 (b.toNat:Int)):=by
  unfold bA.all cy;clear a;induction s with
  | nil=>rfl
  | cons c s f=>rw[n2,f,lB];rfl
 rw[d];simp only[Lib.bytesCells,Array.toList_append,Array.toList_map];rw[rS av]
end
section
variable {P:Program} {n:Nat} {ops:Array Oper} {Q:cl} {rest:List Oper} {l:Fr} {d:Nat} {ty:TypeId} {pos:String} {a6:Array Edge} {b:World} {S:List Nat} {cs:List Chunk}
theorem Ix {x:Operand} {src a e:TypeId} {s:List UInt8} (i:P.underlying src=some .string) (j:P.underlying a=some (.slice e)) (m:P.underlying e=some (.int .u8)) (ak:Nat.blt d n=true) (o:a_ l x=some (.string (bs s))) (t:s.length≤1000000)
 (h: ∀g c,b.heap.size≤g→(∀k∈aB cs,k<g)→s.length≤c→c≤maxLen→az P n ops Q rest ((d,.slice (some ⟨g,0,none⟩) s.length c)::l) (af b S (jn g e (cy.all s)::cs))):
 az P n ops Q (⟨some d,.convert src a x,ty,pos,a6,none⟩::rest) l (af b S cs):=by
 refine ht ak λu w p f=>?_
 have q: (bs s).size=s.length:=hz s
 refine⟨.slice (some ⟨w.heap.size,0,none⟩) s.length (grownCap w s.length 0 e),Lib.bytesWorld w e (bs s),?_,(h w.heap.size _ f.ext.size (λk r=>f.lt r) (grownCap_ge _ _ _ _) (grownCap_le_maxLen _ _ _ _ (by simp only[maxLen];omega))).at (af.T2 f e s)⟩;simp only[execOp,p x _ o];rw[Sem.run_bind,Lib.run_convert_string_bytes w src a e (bs s) i j m,q];rfl
end
def B6:Shelf.Ren:=⟨λ| 129=>290 | 171=>326 | 172=>432 | 205=>469 | 243=>387 | 244=>450 | 245=>451 | 246=>419 | 247=>460 | 279=>461 | 280=>462 | 281=>463 | 282=>464 | 283=>438 | 284=>439 | 285=>440 | 286=>441 | 287=>452 | 316=>468 | 317=>454 | 318=>455 | 319=>456 | 320=>457 | 321=>465 | 322=>466 | 337=>467 | 338=>377 | n=>n,λ| 0=>0 | 2=>2 | 3=>3 | 4=>4 | 5=>5 | 9=>9 | 20=>20 | 21=>21 | 37=>62 | 46=>258 | 51=>89 | 53=>34 | 75=>188 | 76=>189 | 80=>192 | 85=>453 | 127=>233 | 143=>466 | 145=>468 | 167=>452 | 168=>455 | 171=>439 | 173=>441 | 175=>435 | 210=>463 | 212=>448 | 213=>449 | 232=>465 | 233=>428 | n=>n,λ| 15=>5 | 16=>6 | 17=>2 | 18=>7 | 19=>0 | n=>n⟩
theorem T3:LaysC.n172 prog B6 where
 mixed:=by kernel_rfl
 f129:=func290.trans (aX some ab)
 f171:=func326.trans (aX some ab)
 f172:=func432.trans (aX some ab)
 f205:=func469.trans (aX some ab)
 f243:=func387.trans (aX some ab)
 f244:=func450.trans (aX some ab)
 f245:=func451.trans (aX some ab)
 f246:=func419.trans (aX some ab)
 f247:=func460.trans (aX some ab)
 f279:=func461.trans (aX some ab)
 f280:=func462.trans (aX some ab)
 f281:=func463.trans (aX some ab)
 f282:=func464.trans (aX some ab)
 f283:=func438.trans (aX some ab)
 f284:=func439.trans (aX some ab)
 f285:=func440.trans (aX some ab)
 f286:=func441.trans (aX some ab)
 f287:=func452.trans (aX some ab)
 f316:=func468.trans (aX some ab)
 f317:=func454.trans (aX some ab)
 f318:=func455.trans (aX some ab)
 f319:=func456.trans (aX some ab)
 f320:=func457.trans (aX some ab)
 f321:=func465.trans (aX some ab)
 f322:=func466.trans (aX some ab)
 f337:=func467.trans (aX some ab)
 f338:=func377.trans (aX some ab)
 t0:=underlying0
 a0:=isAgg0
 z0:=sizeOf0
 v0:=zeroValue0
 t2:=underlying2
 a2:=isAgg2
 z2:=sizeOf2
 v2:=zeroValue2
 t3:=underlying3
 a3:=isAgg3
 z3:=sizeOf3
 v3:=zeroValue3
 t4:=underlying4
 a4:=isAgg4
 z4:=sizeOf4
 v4:=zeroValue4
 t5:=underlying5
 a5:=isAgg5
 z5:=sizeOf5
 v5:=zeroValue5
 t9:=underlying9
 a9:=isAgg9
 z9:=sizeOf9
 v9:=zeroValue9
 t20:=underlying20
 a20:=isAgg20
 z20:=sizeOf20
 v20:=zeroValue20
 t21:=underlying21
 a21:=isAgg21
 z21:=sizeOf21
 v21:=zeroValue21
 t37:=underlying62
 a37:=isAgg62
 z37:=sizeOf62
 v37:=zeroValue62
 t46:=underlying258
 a46:=isAgg258
 z46:=sizeOf258
 v46:=zeroValue258
 t51:=underlying89
 a51:=isAgg89
 z51:=sizeOf89
 v51:=zeroValue89
 t53:=underlying34
 a53:=isAgg34
 z53:=sizeOf34
 v53:=zeroValue34
 t75:=underlying188
 a75:=isAgg188
 z75:=sizeOf188
 v75:=zeroValue188
 t76:=underlying189
 a76:=isAgg189
 z76:=sizeOf189
 v76:=zeroValue189
 t85:=underlying453
 a85:=isAgg453
 z85:=sizeOf453
 v85:=zeroValue453
 t127:=underlying233
 a127:=isAgg233
 z127:=sizeOf233
 v127:=zeroValue233
 t143:=underlying466
 a143:=isAgg466
 z143:=sizeOf466
 v143:=zeroValue466
 t145:=underlying468
 a145:=isAgg468
 z145:=sizeOf468
 v145:=zeroValue468
 t167:=underlying452
 a167:=isAgg452
 z167:=sizeOf452
 v167:=zeroValue452
 t168:=underlying455
 a168:=isAgg455
 z168:=sizeOf455
 v168:=zeroValue455
 t171:=underlying439
 a171:=isAgg439
 z171:=sizeOf439
 v171:=zeroValue439
 t173:=underlying441
 a173:=isAgg441
 z173:=sizeOf441
 v173:=zeroValue441
 t175:=underlying435
 a175:=isAgg435
 z175:=sizeOf435
 v175:=zeroValue435
 t210:=underlying463
 a210:=isAgg463
 z210:=sizeOf463
 v210:=zeroValue463
 t212:=underlying448
 a212:=isAgg448
 z212:=sizeOf448
 v212:=zeroValue448
 t213:=underlying449
 a213:=isAgg449
 z213:=sizeOf449
 t232:=underlying465
 a232:=isAgg465
 z232:=sizeOf465
 v232:=zeroValue465
 t233:=underlying428
 a233:=isAgg428
 z233:=sizeOf428
 v233:=zeroValue428
 g15:=by kernel_rfl
 g16:=by kernel_rfl
 g17:=by kernel_rfl
 g18:=by kernel_rfl
 g19:=by kernel_rfl
 t80:=underlying192
 a80:=isAgg192
 z80:=sizeOf192
 v80:=zeroValue192
 i0:=by kernel_rfl
 i2:=by kernel_rfl
 i3:=by kernel_rfl
 i4:=by kernel_rfl
 i5:=by kernel_rfl
 i9:=by kernel_rfl
 i20:=by kernel_rfl
 i21:=by kernel_rfl
 i37:=by kernel_rfl
 i46:=by kernel_rfl
 i51:=by kernel_rfl
 i53:=by kernel_rfl
 i75:=by kernel_rfl
 i76:=by kernel_rfl
 i80:=by kernel_rfl
 i85:=by kernel_rfl
 i127:=by kernel_rfl
 i143:=by kernel_rfl
 i145:=by kernel_rfl
 i167:=by kernel_rfl
 i168:=by kernel_rfl
 i171:=by kernel_rfl
 i173:=by kernel_rfl
 i175:=by kernel_rfl
 i210:=by kernel_rfl
 i212:=by kernel_rfl
 i232:=by kernel_rfl
 i233:=by kernel_rfl
 m15:=by kernel_rfl
 m16:=by kernel_rfl
 m17:=by kernel_rfl
 m18:=by kernel_rfl
 m19:=by kernel_rfl
 c0:=by kernel_rfl
 c2:=by kernel_rfl
 c3:=by kernel_rfl
 c4:=by kernel_rfl
 c5:=by kernel_rfl
 c9:=by kernel_rfl
 c20:=by kernel_rfl
 c21:=by kernel_rfl
 c37:=by kernel_rfl
 c46:=by kernel_rfl
 c51:=by kernel_rfl
 c53:=by kernel_rfl
 c75:=by kernel_rfl
 c76:=by kernel_rfl
 c80:=by kernel_rfl
 c85:=by kernel_rfl
 c127:=by kernel_rfl
 c143:=by kernel_rfl
 c145:=by kernel_rfl
 c167:=by kernel_rfl
 c168:=by kernel_rfl
 c171:=by kernel_rfl
 c173:=by kernel_rfl
 c175:=by kernel_rfl
 c210:=by kernel_rfl
 c212:=by kernel_rfl
 c213:=by kernel_rfl
 c232:=by kernel_rfl
 c233:=by kernel_rfl
theorem T4:ad prog 432:=ad.of func432 ab ab
def o8 (w:World):Prop:=(∃t p,w.cell? ⟨B6.g 15,0,none⟩=some (.iface t p))∧(∃t p,w.cell? ⟨B6.g 16,0,none⟩=some (.iface t p))
theorem o8.ext {w w':World} (h:o8 w) (a:Ext [] w w'):o8 w':=by
 obtain⟨⟨t,p,b⟩,⟨d,gc,c⟩⟩:=h;exact⟨⟨t,p,by rw[a.cell (World.block_lt_of_cell? _ _ b) av];exact b⟩,⟨d,gc,by rw[a.cell (World.block_lt_of_cell? _ _ c) av];exact c⟩⟩
theorem T5 (w:World) (s:List UInt8) (v:Int) (a:s.length≤1000000) (h:Lib.atoiAll s= .ok v):
 Calls prog 432 [.string (bs s)].toArray w (λe w'=>e= .returned (.tuple #[.int .i64 v,.nilIface])∧Ext [] w w'):=by
 refine (Any.strconv_Atoi_ok T3 (bs s) (by rw[hz];omega) v h w).mono ?_;rintro e w' ⟨rfl,rfl | ⟨t,rfl⟩⟩;exact⟨rfl,Ext.refl _ _⟩;exact⟨rfl,Ext.r0 (Lib.bytesWorld_below w _ _)⟩
section
variable {P:Program} {n:Nat} {ops:Array Oper} {Q:cl} {rest:List Oper} {l:Fr} {H:World→Prop} {d:Nat} {ty:TypeId} {pos:String} {a6:Array Edge} {x:Operand} {cn du:TypeId}
theorem T6 (b:P.isIface cn=true) (ak:Nat.blt d n=true) (c:a_ l x=some .nilIface)
 (h:az P n ops Q rest ((d,.bool true)::l) H):az P n ops Q (⟨some d,.binOp .eql cn x (.const .nilIface) du,ty,pos,a6,none⟩::rest) l H:=
 da _ ak (λe w a=>by
  have f:e (.const .nilIface)= .nilIface:=a _ _ rfl
  have g:=run_eql_nil_nil_at (P:=P) w cn b
  simp[execOp,a x _ c,f,eqGuard_nil_constR,g]) h
theorem T7 {t:TypeId} {p:Value} (b:P.isIface cn=true) (ak:Nat.blt d n=true) (c:a_ l x=some (.iface t p))
 (h:az P n ops Q rest ((d,.bool false)::l) H):az P n ops Q (⟨some d,.binOp .eql cn x (.const .nilIface) du,ty,pos,a6,none⟩::rest) l H:=
 da _ ak (λe w a=>by
  have f:e (.const .nilIface)= .nilIface:=a _ _ rfl
  have g:=run_eql_iface_nil (P:=P) w cn b t p
  have i:eqGuard .eql cn x (.const .nilIface) (.iface t p) .nilIface=pure ():=by rfl
  simp[execOp,a x _ c,f,i,g]) h
end
section
variable {H:Type} {enc:TypeId × Value→H}
theorem handed_and_shaped {a:Assume} {C:Checked} {os:Os} {f:FuncId} {fn:Func} {s:ChangeSpec} {c:List PathCond} {apart g h k:Bool} {X:World→Array Value→Prop}
 (n: ∀(w w':World) (args:Array Value),w.heap=w'.heap→X w args→X w' args)
 (own:ownKnob C.prog.godebug=none) (o:os.Started) (p:C.prog.inits.idxOf? f=none) (q:C.prog.funcs[f]? = some fn)
 (r: ∃(w:World) (tape:Tape) (i:Input),w.os=os∧(w.forCall tape i).Shaped C.prog∧i.vars=[]∧Input.okWide C.prog (w.forCall tape i) .any w.heap.size f i∧
  ((s.pre enc C.prog fn c apart (w.forCall tape i).memory i.args∧X (w.forCall tape i).memory i.args)∧sizedMet enc C.prog fn (OpenSpec.ofChange s) apart (w.forCall tape i).memory i.args)∧a.holds C.prog (lone (Frame.enter C.prog f i.args .normal) [] (w.forCall tape i)))
 (u: ∀(W:World) (base:Nat) (args:Array Value) (b gs:List (DataW H)) (d:List MemPlace),
  (∀(j:Nat) t v,fn.params[j]? = some t→args[j]? = some v→Value.okWide C.prog W .any base t v)→
  DataW.Whole enc C.prog fn.params.toList s.vars apart W args.toList b gs d→
  c.all (PathCond.test C.prog ⟨fn.params.toList,b,s.plain.varTypes C.prog,gs⟩)=true→
  (DataW.weightsEach C.prog (fn.params.toList++s.plain.varTypes C.prog) (b++gs)).all (· ≤reachBytes)=true→X W args→W.ShapedOpen C.prog→
  Calls C.prog f args W λe l=> ∃v,e= .returned v∧s.post enc C.prog fn apart g h k W args v l):
 ReturnsInHanded a C os f .any (λw args=>(s.pre enc C.prog fn c apart w args∧X w args)∧sizedMet enc C.prog fn (OpenSpec.ofChange s) apart w args) (s.post enc C.prog fn apart g h k):=by
 refine returnsInHanded_of_calls own o p r ?_;intro w tape i _ x _ y z _;obtain⟨_,_,_,A,B,_,_,_,_,D⟩:=y;obtain rfl:A=fn:=od (B.symm.trans q);obtain⟨⟨⟨b,gs,d,m,E⟩,F⟩,G⟩:=z;have I:=DataW.Whole.of_heap (w':=w.forCall tape i) a7 m
 refine (u (w.forCall tape i) w.heap.size i.args b gs d D I E (G.weights m) (n _ _ _ a7 F) x).mono λe l ⟨v,J,ai⟩=>?_
 subst J;exact ChangeSpec.post_blind ai
end
theorem T8 {W:World} (h:W.ShapedOpen prog):rp W:=
 cell_of_shapedOpen_int (t:=3) (zero:= #[.int .i64 0]) h (aY ab) ab rfl ab ab underlying3
end
end Go.Proofs.YtkeokgcdnfjaaaaGreatDoor.Mq.Os
