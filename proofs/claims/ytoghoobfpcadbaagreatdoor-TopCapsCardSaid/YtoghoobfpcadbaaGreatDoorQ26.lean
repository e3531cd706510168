/- part 26 of the proof -/
import Derived.Test.YtoghoobfpcadbaaGreatDoorQ09
import Derived.Shelf.Strconv.Itoa3
import Derived.Lib.ItoaLen
import Derived.Lib.Join
import Derived.Lib.JoinLaws
import Derived.Lib.AtoiAllCases
import Derived.Lib.ParseIntBCases
import Derived.Shelf.Strings.Split
import Derived.Shelf.GgClosure.StringsIndexFuncTop
import Derived.Lib.ConvBytes
import Derived.Lib.AtoiErrMem
import Derived.Laws.AppendOwn
import Derived.Shelf.Strconv.ErrVarAll
import Derived.Shelf.Lays2
import Derived.WideLaws
import Derived.Stop.IfaceNil
import Derived.HandedShaped
import Derived.Handed
import Derived.Shelf.Vars
namespace Go.Proofs.YtoghoobfpcadbaaGreatDoor.Mq.Os
open Go Go.RowKit Go.Proofs Tryz
section
def fy (w:World):Prop:=Lib.TabIs prog w "internal/strconv.uint64pow10" .u64 Lib.pow10Tab
theorem vy {P:Program} {w w':World} {nm:String} {k:IntKind} {b:List Int} (h:Lib.TabIs P w nm k b) (c:Ext [] w w'):Lib.TabIs P w' nm k b:=by
 unfold Lib.TabIs World.var? at *
 obtain⟨g,d,a⟩:=lL.1 h;refine lL.2 ⟨g,d,?_⟩;have e:g<w.heap.size:=by
  rcases e0 g w.heap.size with h | h
  exact h;rw[rO h] at a;cases a
 rw[c.block g e av];exact a
theorem fy.ext {w w':World} (h:fy w) (a:Ext [] w w'):fy w':=vy h a
theorem aeC: ∀(u:Nat),∀c∈Lib.decDigits u,48≤c.toNat∧c.toNat≤57:=by
 intro u;induction u using Nat.strongRecOn with
 | _ u b=>
  intro c a;rw[Lib.decDigits] at a
  split at a
  simp only[ey] at a
  subst a;simp
  omega
  rcases db.1 a with h | h
  exact b (u/10) aa c h;simp only[ey] at h
  subst h;simp
  omega
def vB (l:List UInt8):Nat:=l.foldl (λa c=>10*a+(c.toNat - 48)) 0
def jL:bx (List UInt8):=⟨λs=>[.string (bs s)],1,λ_=>rfl,λ_=>aH.cons rfl aH.nil⟩
theorem qe: ∀(l:List UInt8) (c:UInt8),(c∉l∧Lib.indexByte l c= -1)∨ ∃pre d,l=pre++c::d∧c∉pre∧Lib.indexByte l c=(pre.length:Int)
 | [],c=> .inl ⟨by simp,rfl⟩
 | b::l,c=>by
  by_cases a:b=c
  subst a;exact .inr ⟨[],l,rfl,by simp,by simp[Lib.indexByte]⟩;rcases qe l c with ⟨e,f⟩ | ⟨pre,d,e,f,g⟩
  exact .inl ⟨by simp[e,Ne.symm a],by simp[Lib.indexByte,a,f]⟩;refine .inr ⟨b::pre,d,by rw[e];rfl,by simp[f,Ne.symm a],?_⟩;have: ¬((pre.length:Int)= -1):=by omega
  simp[Lib.indexByte,a,g,this]
theorem oZ {pre post:List UInt8} {sep:UInt8} (h:sep∉pre): (pre++sep::post).takeWhile (· ≠sep)=pre∧((pre++sep::post).dropWhile (· ≠sep)).drop 1=post:=by
 induction pre with
 | nil=>simp
 | cons c pre b=>
  have d:c≠sep:=λe=>h (by simp[e])
  have a:=b (λf=>h (by simp[f]))
  have ak:decide (c≠sep)=true:=b5 d
  rw[mq,List.takeWhile_cons_of_pos (p:=λx=>decide (x≠sep)) ak,List.dropWhile_cons_of_pos (p:=λx=>decide (x≠sep)) ak,a.1];exact⟨rfl,a.2⟩
def fH (a:UInt8):List UInt8→List (List UInt8)
 | []=>[[]]
 | c::s=>if c=a then []::fH a s else match fH a s with
  | []=>[[c]]
  | p::b=>(c::p)::b
theorem T9 (a:UInt8) (s:List UInt8):fH a s≠[]:=by
 cases s with
 | nil=>simp[fH]
 | cons c s=>unfold fH;split <;> (try split) <;> simp
theorem T_ {sep:UInt8} {pre:List UInt8} (h:sep∉pre) (post:List UInt8):fH sep (pre++sep::post)=pre::fH sep post:=by
 induction pre with
 | nil=>simp[fH]
 | cons c pre a=>
  have b: ¬c=sep:=λe=>h (by simp[e])
  rw[mq,fH,ag b,a (λd=>h (by simp[d]))]
theorem Ua {sep:UInt8} {s:List UInt8} (h:sep∉s):fH sep s=[s]:=by
 induction s with
 | nil=>rfl
 | cons c s a=>
  have b: ¬c=sep:=λe=>h (by simp[e])
  rw[fH,ag b,a (λd=>h (by simp[d]))]
def ke (a:Nat) (c:UInt8):Nat:=10*a+(c.toNat - 48)
theorem Cb (l:List UInt8):vB l=l.foldl ke 0:=rfl
theorem It: ∀(l:List UInt8) (a:Nat),a≤l.foldl ke a
 | [],_=>ch _
 | c::l,a=>by rw[rS];exact fs (by unfold ke;omega) (It l _)
def pb (c:UInt8):Bool:=decide (48≤c.toNat∧c.toNat≤57)
def Iu (n:Int):Prop:= -9223372036854775808≤n∧n≤9223372036854775807
instance (n:Int):Decidable (Iu n):=by unfold Iu;exact inferInstance
theorem Iv: ∀(l:List UInt8) (a:Nat),(∀c∈l,pb c=true)→l.foldl ke a<18446744073709551616→Lib.parseUint10 a l= .ok (l.foldl ke a)
 | [],_,_,_=>rfl
 | c::r,a,ak,b=>by
  have d:=a1 (ak c av)
  rw[rS] at b ⊢
  have g:=It r (ke a c)
  have h:10*a≤ke a c:=by unfold ke;omega
  have e:a*10+(c.toNat - 48)=ke a c:=by unfold ke;omega
  unfold Lib.parseUint10;rw[ay d,ag aa,ag aa,e];exact Iv r _ (λx f=>ak x (by simp[f])) b
def Iw:Shelf.Ren:=⟨λ| 138=>444 | 143=>445 | 146=>352 | 195=>462 | 197=>463 | 217=>421 | 218=>464 | 219=>442 | 221=>414 | 224=>460 | 225=>459 | 260=>475 | 266=>450 | 267=>461 | 268=>443 | 314=>474 | n=>n,λ| 0=>0 | 3=>3 | 4=>4 | 5=>5 | 9=>9 | 21=>21 | 31=>330 | 46=>250 | 51=>76 | 105=>452 | 119=>466 | 138=>468 | 139=>469 | 146=>458 | n=>n,λ| 1=>1 | 3=>3 | 4=>4 | n=>n⟩
theorem Ub:Lays.n146 prog Iw where
 mixed:=by kernel_rfl
 f138:=func444.trans (aV some ab)
 f143:=func445.trans (aV some ab)
 f146:=func352.trans (aV some ab)
 f195:=func462.trans (aV some ab)
 f197:=func463.trans (aV some ab)
 f217:=func421.trans (aV some ab)
 f218:=func464.trans (aV some ab)
 f219:=func442.trans (aV some ab)
 f221:=func414.trans (aV some ab)
 f224:=func460.trans (aV some ab)
 f225:=func459.trans (aV some ab)
 f260:=func475.trans (aV some ab)
 f266:=func450.trans (aV some ab)
 f267:=func461.trans (aV some ab)
 f268:=func443.trans (aV some ab)
 f314:=func474.trans (aV some ab)
 t0:=underlying0
 a0:=isAgg0
 z0:=sizeOf0
 v0:=zeroValue0
 t3:=underlying3
 a3:=isAgg3
 z3:=sizeOf3
 v3:=zeroValue3
 t4:=underlying4
 a4:=isAgg4
 z4:=sizeOf4
 v4:=zeroValue4
 t5:=underlying5
 a5:=isAgg5
 z5:=sizeOf5
 v5:=zeroValue5
 t9:=underlying9
 a9:=isAgg9
 z9:=sizeOf9
 v9:=zeroValue9
 t21:=underlying21
 a21:=isAgg21
 z21:=sizeOf21
 v21:=zeroValue21
 t31:=underlying330
 a31:=isAgg330
 z31:=sizeOf330
 v31:=zeroValue330
 t46:=underlying250
 a46:=isAgg250
 z46:=sizeOf250
 v46:=zeroValue250
 t51:=underlying76
 a51:=isAgg76
 z51:=sizeOf76
 v51:=zeroValue76
 t105:=underlying452
 a105:=isAgg452
 z105:=sizeOf452
 v105:=zeroValue452
 t119:=underlying466
 a119:=isAgg466
 z119:=sizeOf466
 t138:=underlying468
 a138:=isAgg468
 z138:=sizeOf468
 v138:=zeroValue468
 t139:=underlying469
 a139:=isAgg469
 z139:=sizeOf469
 v139:=zeroValue469
 t146:=underlying458
 a146:=isAgg458
 z146:=sizeOf458
 v146:=zeroValue458
 g1:=by kernel_rfl
 g3:=by kernel_rfl
 g4:=by kernel_rfl
theorem Uc:ad prog 352:=ad.of func352 ab ab
theorem index_one (c:UInt8): ∀s:List UInt8,Lib.index s [c]=Lib.indexByte s c
 | []=>rfl
 | b::l=>by
  have e: [c].isPrefixOf (b::l)=(b == c):=by
   show (c == b && List.isPrefixOf [] l)=(b == c)
   rw[show List.isPrefixOf [] l=true by cases l <;> rfl,qA];by_cases h:b=c
   rw[h];rw[beq_eq_false_iff_ne.2 h,beq_eq_false_iff_ne.2 (λe=>h e.symm)]
  unfold Lib.index Lib.indexByte;rw[e,index_one c l]
theorem Ix (c:UInt8) (d:Nat) (g:d=0): ∀(m:Nat) (s:List UInt8),s.length≤m→Lib.splitK [c] d (s.count c) s=fH c s
 | m,s,e=>by
  subst g;rcases qe s c with ⟨f,a⟩ | ⟨pre,b,rfl,a,h⟩
  rw[List.count_eq_zero_of_not_mem f,Ua f];rfl
  have i: (pre++c::b).count c=b.count c+1:=by
   rw[List.count_append,List.count_eq_zero_of_not_mem a,List.count_cons_self];omega
  rw[i,T_ a];unfold Lib.splitK;rw[index_one,h,ag av];cases m with
  | zero=>simp at e
  | succ m=>
   have j: ((pre.length:Int)).toNat=pre.length:=by omega
   rw[j,Nat.add_zero,r0,iC,←mr,List.drop_left',List.drop_one,List.tail_cons,Ix c 0 rfl m b (by simp at e;omega)];rfl
   rfl
theorem Ud (w:World) (o:Obj):Ext [] w (w.alloc o):=by
 refine⟨rfl,rfl,rfl,?_,λb a _=>?_⟩;show w.heap.size≤(w.heap.push o).size
 rw[Array.size_push];omega
 show (w.heap.push o)[b]? = w.heap[b]?
 rw[Array.getElem?_push,ag (Nat.ne_of_lt a)]
def rx (w:World):Prop:= ∃m:Int,w.cell? ⟨Iw.g 1,0,none⟩=some (.int .i64 m)
theorem rx.ext {w w':World} (h:rx w) (b:Ext [] w w'):rx w':=by
 obtain⟨m,a⟩:=h;exact⟨m,by rw[b.cell (World.block_lt_of_cell? _ _ a) av];exact a⟩
theorem Ue (w:World) (g:rx w) (s:List UInt8) (c:UInt8) (q:s.length≤1000000):
 Calls prog 352 [.string (bs s),.string (bs [c])].toArray w (ik jL w (fH c s)):=by
 obtain⟨m,h⟩:=g;refine (Any.strings_Split Ub ab (bs s) (bs [c]) m w (by rw[hH];omega) h (by rw[hH];exact ch 1)).mono ?_;rintro e w' ⟨rfl,rfl⟩;have b:Lib.countB (bs s) (bs [c])=s.count c:=Lib.count_one c s
 have i: (Lib.splitB (bs [c]) 0 (s.count c) (bs s)).map (·.data.toList)=fH c s:=by
  rw[Lib.splitB_data];exact Ix c 0 rfl _ s (ch _)
 have d: (Lib.splitB (bs [c]) 0 (s.count c) (bs s))=(fH c s).map bs:=by
  rw[←i,lJ];conv=>lhs;rw[←List.map_id (Lib.splitB (bs [c]) 0 (s.count c) (bs s))]
  exact uh λx _=>(Lz x).symm
 have l: (fH c s).length=s.count c+1:=by
  have:=Lib.splitB_all (bs [c]) (by rw[hH];exact ch 1) 0 (s.count c) (bs s) b
  rw[d,cT] at this
  exact this
 have r:s.count c≤s.length:=List.count_le_length
 refine⟨_,_,_,rfl,Ud _ _,?_⟩;rw[b,d];refine⟨l,ch _,by simp only[maxLen];omega,λ_=>⟨_,rfl,ch _,λk a j u n f=>?_⟩⟩;have o:j=0∧u= .string (bs a):=by
  cases j with
  | zero=>exact⟨rfl,by simpa [jL] using f.symm⟩
  | succ j=>simp[jL] at f
 obtain⟨rfl,rfl⟩:=o;have p: ((((fH c s).map bs).map Value.string).toArray)[k]? = some (Value.string (bs a)):=by
  rw[List.getElem?_toArray,eJ,eJ,n];rfl
 rw[Addr.add_lit,Addr.add_lit,World.cell?_alloc_new,show 0+k*jL.sz+0=k from by show 0+k*1+0=k;omega];exact p
theorem x4:ad prog 421:=ad.of func421 ab ab
theorem Be:ad prog 442:=ad.of func442 ab ab
theorem Bf:ad prog 413:=ad.of func413 ab ab
theorem x5 (w:World) (s:List UInt8) (c:UInt8):
 Calls prog 421 [.string (bs s),.int .u8 (c.toNat:Int)].toArray w (λe w'=>e= .returned (.int .i64 (Lib.indexByte s c))∧w'=w):=by
 refine calls (n:=8) func421 rfl ntmps421 rfl ?_;refine aJ ?_;refine w7 rfl rfl (λa _=>FC func450 ab ab ab ab s c a) ?_;refine ax ?_;intro d b;exact⟨rfl,b⟩
theorem Bg (w:World) (s:List UInt8) (c:UInt8):
 Calls prog 442 [.string (bs s),.string (bs [c])].toArray w (λe w'=>e= .returned (.int .i64 (Lib.indexByte s c))∧w'=w):=by
 refine calls (n:=143) func442 rfl ntmps442 rfl ?_;refine eM ?_;refine bY rfl rfl av ?_;refine ar ?_;refine bY rfl rfl av ?_;refine ar ?_;refine bY rfl rfl av ?_;refine ar ?_;refine ig rfl rfl av rfl ?_;refine ah ?_;refine aj (λb=>?_) (λb=>?_);refine aJ ?_;intro d a;refine⟨?_,a⟩;rw[←b];simp[Lib.indexByte]
 refine aD ?_;refine eA rfl (av) ?_;refine aS ?_;refine ii (q:=0) underlying9 rfl rfl rfl bb (rfl: [c][0]? = some c) ?_;refine je rfl x4 rfl (λw' _=>x5 w' s c) ?_;refine aD ?_;intro d a;exact⟨rfl,a⟩
def iS (s:List UInt8) (c:UInt8):Value:=if c∈s then .tuple #[.string (bs (s.takeWhile (· ≠c))),.string (bs ((s.dropWhile (· ≠c)).drop 1)),.bool true] else .tuple #[.string (bs s),.string (bs []),.bool false]
theorem Bh (w:World) (s:List UInt8) (c:UInt8) (l:s.length≤1000000):
 Calls prog 413 [.string (bs s),.string (bs [c])].toArray w (λe w'=>e= .returned (iS s c)∧Ext [] w w'):=by
 refine aW func413 ntmps413 ?_;refine bB ?_;refine je rfl Be rfl (λw' _=>Bg w' s c) ?_;refine aJ ?_;rcases qe s c with ⟨j,a⟩ | ⟨pre,f,b,g,a⟩
 rw[a];refine bI ?_;intro k d;exact⟨by rw[iS,ag j],d.ext⟩;rw[a];refine eA rfl (av) ?_;have m:pre.length+1≤s.length:=by rw[b];simp
 refine ar ?_;refine bF [0,1,2,3,4,5,6,7,8,9,10,11] 0 [[]] ?_;refine aq ?_;refine aI rfl (λh i=>(pC pre.length underlying9 rfl rfl rfl bb aa aC)) ?_;refine aS ?_;refine aI rfl (λh i=>(gu (r:=((pre.length+1 :Nat):Int)) rfl rfl rfl (by rw[wrap64 (by simp;omega) (by simp;omega)];simp) aC)) ?_;refine aI rfl (λh i=>(pB (pre.length+1) underlying9 rfl rfl rfl bb aa aC)) ?_;refine aJ ?_;intro k d;refine⟨?_,d.ext⟩;rw[iS,ay (by rw[b];simp),b,(oZ g).1,(oZ g).2,r0,show pre++c::f=(pre++[c])++f by simp,List.drop_left'] <;> simp
theorem Bi (w:World) (s:List UInt8) (c:UInt8) (a:s.length≤1000000):
 Calls prog 351 [.string (bs s),.string (bs [c])].toArray w (λe w'=>e= .returned (iS s c)∧Ext [] w w'):=by
 refine aW func351 ntmps351 ?_;refine bp ?_;refine ao rfl Bf rfl (λw' _=>Bh w' s c a) ?_;obtain⟨x,y,b,d⟩ : ∃x y b,iS s c= .tuple #[.string x,.string y,.bool b]:=by unfold iS;split <;> exact⟨_,_,_,rfl⟩
 rw[d];refine aR ?_;intro g f;exact⟨rfl,f.ext⟩
theorem Uf:ad prog 359:=ad.of func359 ab ab
theorem Iy:ad prog 423:=ad.of func423 ab ab
theorem Iz (w:World) (s p:List UInt8) (f:s.length≤9223372036854775807) (ai:p.length≤9223372036854775807):Calls prog 423 [.string (bs s),.string (bs p)].toArray w (λe w'=>e= .returned (.bool (decide (s.take p.length=p)))∧Ext [] w w'):=by
 refine aW func423 ntmps423 ?_;refine bI ?_;refine aX 10 rfl (λa=>?_) (λa=>?_);have c:=a1 a
 refine aD ?_;refine pC p.length underlying9 rfl rfl rfl bb aa ?_;refine aR ?_;intro d b;exact⟨rfl,b.ext⟩;have c:=bc a
 refine bB ?_;intro d b;refine⟨?_,b.ext⟩;rw[bO (λe=>c (by have:=aV List.length e;simp at this;omega))]
theorem Ug (w:World) (s p:List UInt8) (b:s.length≤9223372036854775807) (ai:p.length≤9223372036854775807):Calls prog 359 [.string (bs s),.string (bs p)].toArray w (λe w'=>e= .returned (.tuple #[.string (bs (if s.take p.length=p then s.drop p.length else s)),.bool (decide (s.take p.length=p))])∧Ext [] w w'):=by
 refine aW func359 ntmps359 ?_;refine bp ?_;refine ao rfl Iy rfl (λw' _=>Iz w' s p b ai) ?_;refine ah ?_;by_cases h:s.take p.length=p
 refine fD rfl ((by rw[b5 h];rfl)) ?_;have d:p.length≤s.length:=by have:=aV List.length h;simp at this;omega
 refine aD ?_;refine pB p.length underlying9 rfl rfl rfl bb aa ?_;refine al ?_;intro c a;exact⟨by rw[ay h,b5 h],a.ext⟩;refine eA rfl ((by rw[bO h];rfl)) ?_;refine aR ?_;intro c a;exact⟨by rw[ag h,bO h],a.ext⟩
theorem IA (w:World) (s p:List UInt8) (a:s.length≤9223372036854775807) (ai:p.length≤9223372036854775807):Calls prog 275 [.string (bs s),.string (bs p)].toArray w (λe w'=>e= .returned (.tuple #[.string (bs (if s.take p.length=p then s.drop p.length else s)),.bool (decide (s.take p.length=p))])∧Ext [] w w'):=by
 refine aW func275 ntmps275 ?_;refine aR ?_;refine ao rfl Uf rfl (λw' _=>Ug w' s p a ai) ?_;refine aL ?_;intro c b;exact⟨rfl,b.ext⟩
theorem IB (s:UInt8): ∀t:List UInt8,∀x∈fH s t,s∉x∧x.length≤t.length
 | [],x,a=>by rw[fH,ey] at a;subst a;simp
 | c::t,x,a=>by
  have b:=IB s t
  unfold fH at a
  split at a
  rcases eZ.1 a with rfl | a
  simp
  have:=b x a;exact⟨this.1,by rw[eK];omega⟩
  rename_i e;cases d:fH s t with
  | nil=>exact absurd d (T9 s t)
  | cons p g=>
   rw[d] at a b
   dsimp only at a
   rcases eZ.1 a with rfl | a
   have:=b p av
   refine⟨λf=>?_,by rw[eK,eK];omega⟩;rcases eZ.1 f with h | h
   exact e h.symm;exact this.1 h;have:=b x (by simp[a]);exact⟨this.1,by rw[eK];omega⟩
def jr (g:Nat) (e:TypeId) (xs:List Value):Chunk where
 cm:=[g]
 pred w:= ∃am a,w.heap[g]? = some (.cells am e a)∧xs.length≤a.1∧am.toList.take xs.length=xs
 low w h k c:=by
  simp only[ey] at c
  subst c
  obtain⟨am,a,b,_⟩:=h
  exact (lE.1 b).1
 loc w w' h ai:=by
  obtain⟨am,a,b,d⟩:=ai
  exact⟨am,a,by rw[h g av];exact b,d⟩
theorem Uh {am xs:List Value} (h:am.take xs.length=xs) {o:Nat} {v:Value} (a:xs[o]? = some v):am[o]? = some v:=by
 have b:=(cY.1 a).1
 rw[←h,iB] at a
 rwa [ay b] at a
section
variable {b:World} {S:List Nat} {cs:List Chunk} {w:World}
theorem af.IC (h:af b S cs w) {g e:Nat} {xs:List Value} (a:Has cs (jr g e xs)) {o:Nat} {v:Value} (c:xs[o]? = some v):w.cell? ⟨g,o,none⟩=some v:=by
 obtain⟨am,d,f,j,i⟩:=h.has a;rw[cell_of_row w g o am e d f];have:=Uh i c
 rwa [Array.getElem?_toList] at this
theorem Rd.ID {α:Type} {E:bx α} {L:List α} (h:af b S cs w) {g e c:Nat} (d:Has cs (jr g e (E.all L))) (f:L.length≤c) (i:c≤maxLen):Rd E w (λk=>k=g) (some ⟨g,0,none⟩) L.length c L:=by
 refine⟨rfl,f,i,λ_=>⟨_,rfl,rfl,λk a j u l m=>?_⟩⟩;have:=af.IC h d (E.lM l m)
 rw[Addr.add_lit,Addr.add_lit,dA];exact this
theorem af.Ui (h:af b S cs w) (e:Nat) (s:List UInt8):af b S (jr w.heap.size e (cD.all s)::cs) (Lib.bytesWorld w e (bs s)):=by
 have a: (cD.all s).length=s.length:=by rw[cD.dE];exact Nat.mul_one _
 refine h.add (Ext.r8 (Lib.bytesWorld_below w e (bs s))) ⟨_,_,Lib.bytesWorld_at_new w e (bs s),?_,?_⟩ (by simp[jr]) (by simp[jr]);show (cD.all s).length≤(Lib.bytesCells w e (bs s)).size
 rw[a];simp[Lib.bytesCells]
 rw[a];have d:cD.all s=s.map (λb=>Value.int .u8 (b.toNat:Int)):=by
  unfold bx.all cD;clear a;induction s with
  | nil=>rfl
  | cons c s f=>rw[n_,f,lI];rfl
 rw[d];simp only[Lib.bytesCells,Array.toList_append,Array.toList_map];rw[r0 av]
end
section
variable {P:Program} {n:Nat} {ops:Array Oper} {Q:cq} {rest:List Oper} {l:Fr} {d:Nat} {ty:TypeId} {pos:String} {a6:Array Edge} {b:World} {S:List Nat} {cs:List Chunk}
theorem IE {x:Operand} {src a e:TypeId} {s:List UInt8} (i:P.underlying src=some .string) (j:P.underlying a=some (.slice e)) (m:P.underlying e=some (.int .u8)) (ak:Nat.blt d n=true) (o:ba l x=some (.string (bs s))) (t:s.length≤1000000)
 (h: ∀g c,b.heap.size≤g→(∀k∈aA cs,k<g)→s.length≤c→c≤maxLen→az P n ops Q rest ((d,.slice (some ⟨g,0,none⟩) s.length c)::l) (af b S (jr g e (cD.all s)::cs))):
 az P n ops Q (⟨some d,.convert src a x,ty,pos,a6,none⟩::rest) l (af b S cs):=by
 refine hD ak λu w p f=>?_
 have q: (bs s).size=s.length:=hH s
 refine⟨.slice (some ⟨w.heap.size,0,none⟩) s.length (grownCap w s.length 0 e),Lib.bytesWorld w e (bs s),?_,(h w.heap.size _ f.ext.size (λk r=>f.lt r) (grownCap_ge _ _ _ _) (grownCap_le_maxLen _ _ _ _ (by simp only[maxLen];omega))).at (af.Ui f e s)⟩;simp only[execOp,p x _ o];rw[Sem.run_bind,Lib.run_convert_string_bytes w src a e (bs s) i j m,q];rfl
end
def Cc:Shelf.Ren:=⟨λ| 129=>215 | 171=>343 | 172=>448 | 205=>485 | 243=>403 | 244=>466 | 245=>467 | 246=>435 | 247=>476 | 279=>477 | 280=>478 | 281=>479 | 282=>480 | 283=>454 | 284=>455 | 285=>456 | 286=>457 | 287=>468 | 316=>484 | 317=>470 | 318=>471 | 319=>472 | 320=>473 | 321=>481 | 322=>482 | 337=>483 | 338=>393 | n=>n,λ| 0=>0 | 2=>2 | 3=>3 | 4=>4 | 5=>5 | 9=>9 | 20=>20 | 21=>21 | 37=>59 | 46=>250 | 51=>76 | 53=>32 | 75=>176 | 76=>177 | 80=>49 | 85=>461 | 127=>229 | 143=>474 | 145=>476 | 167=>460 | 168=>463 | 171=>447 | 173=>449 | 175=>443 | 210=>471 | 212=>456 | 213=>457 | 232=>473 | 233=>436 | n=>n,λ| 15=>5 | 16=>6 | 17=>2 | 18=>7 | 19=>0 | n=>n⟩
theorem Uj:LaysC.n172 prog Cc where
 mixed:=by kernel_rfl
 f129:=func215.trans (aV some ab)
 f171:=func343.trans (aV some ab)
 f172:=func448.trans (aV some ab)
 f205:=func485.trans (aV some ab)
 f243:=func403.trans (aV some ab)
 f244:=func466.trans (aV some ab)
 f245:=func467.trans (aV some ab)
 f246:=func435.trans (aV some ab)
 f247:=func476.trans (aV some ab)
 f279:=func477.trans (aV some ab)
 f280:=func478.trans (aV some ab)
 f281:=func479.trans (aV some ab)
 f282:=func480.trans (aV some ab)
 f283:=func454.trans (aV some ab)
 f284:=func455.trans (aV some ab)
 f285:=func456.trans (aV some ab)
 f286:=func457.trans (aV some ab)
 f287:=func468.trans (aV some ab)
 f316:=func484.trans (aV some ab)
 f317:=func470.trans (aV some ab)
 f318:=func471.trans (aV some ab)
 f319:=func472.trans (aV some ab)
 f320:=func473.trans (aV some ab)
 f321:=func481.trans (aV some ab)
 f322:=func482.trans (aV some ab)
 f337:=func483.trans (aV some ab)
 f338:=func393.trans (aV some ab)
 t0:=underlying0
 a0:=isAgg0
 z0:=sizeOf0
 v0:=zeroValue0
 t2:=underlying2
 a2:=isAgg2
 z2:=sizeOf2
 v2:=zeroValue2
 t3:=underlying3
 a3:=isAgg3
 z3:=sizeOf3
 v3:=zeroValue3
 t4:=underlying4
 a4:=isAgg4
 z4:=sizeOf4
 v4:=zeroValue4
 t5:=underlying5
 a5:=isAgg5
 z5:=sizeOf5
 v5:=zeroValue5
 t9:=underlying9
 a9:=isAgg9
 z9:=sizeOf9
 v9:=zeroValue9
 t20:=underlying20
 a20:=isAgg20
 z20:=sizeOf20
 v20:=zeroValue20
 t21:=underlying21
 a21:=isAgg21
 z21:=sizeOf21
 v21:=zeroValue21
 t37:=underlying59
 a37:=isAgg59
 z37:=sizeOf59
 v37:=zeroValue59
 t46:=underlying250
 a46:=isAgg250
 z46:=sizeOf250
 v46:=zeroValue250
 t51:=underlying76
 a51:=isAgg76
 z51:=sizeOf76
 v51:=zeroValue76
 t53:=underlying32
 a53:=isAgg32
 z53:=sizeOf32
 v53:=zeroValue32
 t75:=underlying176
 a75:=isAgg176
 z75:=sizeOf176
 v75:=zeroValue176
 t76:=underlying177
 a76:=isAgg177
 z76:=sizeOf177
 v76:=zeroValue177
 t85:=underlying461
 a85:=isAgg461
 z85:=sizeOf461
 v85:=zeroValue461
 t127:=underlying229
 a127:=isAgg229
 z127:=sizeOf229
 v127:=zeroValue229
 t143:=underlying474
 a143:=isAgg474
 z143:=sizeOf474
 v143:=zeroValue474
 t145:=underlying476
 a145:=isAgg476
 z145:=sizeOf476
 v145:=zeroValue476
 t167:=underlying460
 a167:=isAgg460
 z167:=sizeOf460
 v167:=zeroValue460
 t168:=underlying463
 a168:=isAgg463
 z168:=sizeOf463
 v168:=zeroValue463
 t171:=underlying447
 a171:=isAgg447
 z171:=sizeOf447
 v171:=zeroValue447
 t173:=underlying449
 a173:=isAgg449
 z173:=sizeOf449
 v173:=zeroValue449
 t175:=underlying443
 a175:=isAgg443
 z175:=sizeOf443
 v175:=zeroValue443
 t210:=underlying471
 a210:=isAgg471
 z210:=sizeOf471
 v210:=zeroValue471
 t212:=underlying456
 a212:=isAgg456
 z212:=sizeOf456
 v212:=zeroValue456
 t213:=underlying457
 a213:=isAgg457
 z213:=sizeOf457
 t232:=underlying473
 a232:=isAgg473
 z232:=sizeOf473
 v232:=zeroValue473
 t233:=underlying436
 a233:=isAgg436
 z233:=sizeOf436
 v233:=zeroValue436
 g15:=by kernel_rfl
 g16:=by kernel_rfl
 g17:=by kernel_rfl
 g18:=by kernel_rfl
 g19:=by kernel_rfl
 t80:=underlying49
 a80:=isAgg49
 z80:=sizeOf49
 v80:=zeroValue49
 i0:=by kernel_rfl
 i2:=by kernel_rfl
 i3:=by kernel_rfl
 i4:=by kernel_rfl
 i5:=by kernel_rfl
 i9:=by kernel_rfl
 i20:=by kernel_rfl
 i21:=by kernel_rfl
 i37:=by kernel_rfl
 i46:=by kernel_rfl
 i51:=by kernel_rfl
 i53:=by kernel_rfl
 i75:=by kernel_rfl
 i76:=by kernel_rfl
 i80:=by kernel_rfl
 i85:=by kernel_rfl
 i127:=by kernel_rfl
 i143:=by kernel_rfl
 i145:=by kernel_rfl
 i167:=by kernel_rfl
 i168:=by kernel_rfl
 i171:=by kernel_rfl
 i173:=by kernel_rfl
 i175:=by kernel_rfl
 i210:=by kernel_rfl
 i212:=by kernel_rfl
 i232:=by kernel_rfl
 i233:=by kernel_rfl
 m15:=by kernel_rfl
 m16:=by kernel_rfl
 m17:=by kernel_rfl
 m18:=by kernel_rfl
 m19:=by kernel_rfl
 c0:=by kernel_rfl
 c2:=by kernel_rfl
 c3:=by kernel_rfl
 c4:=by kernel_rfl
 c5:=by kernel_rfl
 c9:=by kernel_rfl
 c20:=by kernel_rfl
 c21:=by kernel_rfl
 c37:=by kernel_rfl
 c46:=by kernel_rfl
 c51:=by kernel_rfl
 c53:=by kernel_rfl
 c75:=by kernel_rfl
 c76:=by kernel_rfl
 c80:=by kernel_rfl
 c85:=by kernel_rfl
 c127:=by kernel_rfl
 c143:=by kernel_rfl
 c145:=by kernel_rfl
 c167:=by kernel_rfl
 c168:=by kernel_rfl
 c171:=by kernel_rfl
 c173:=by kernel_rfl
 c175:=by kernel_rfl
 c210:=by kernel_rfl
 c212:=by kernel_rfl
 c213:=by kernel_rfl
 c232:=by kernel_rfl
 c233:=by kernel_rfl
theorem Uk:ad prog 448:=ad.of func448 ab ab
def pc (w:World):Prop:=(∃t p,w.cell? ⟨Cc.g 15,0,none⟩=some (.iface t p))∧(∃t p,w.cell? ⟨Cc.g 16,0,none⟩=some (.iface t p))
theorem pc.ext {w w':World} (h:pc w) (a:Ext [] w w'):pc w':=by
 obtain⟨⟨t,p,b⟩,⟨d,gg,c⟩⟩:=h;exact⟨⟨t,p,by rw[a.cell (World.block_lt_of_cell? _ _ b) av];exact b⟩,⟨d,gg,by rw[a.cell (World.block_lt_of_cell? _ _ c) av];exact c⟩⟩
theorem Ul (w:World) (s:List UInt8) (v:Int) (a:s.length≤1000000) (h:Lib.atoiAll s= .ok v):
 Calls prog 448 [.string (bs s)].toArray w (λe w'=>e= .returned (.tuple #[.int .i64 v,.nilIface])∧Ext [] w w'):=by
 refine (Any.strconv_Atoi_ok Uj (bs s) (by rw[hH];omega) v h w).mono ?_;rintro e w' ⟨rfl,rfl | ⟨t,rfl⟩⟩;exact⟨rfl,Ext.refl _ _⟩;exact⟨rfl,Ext.r8 (Lib.bytesWorld_below w _ _)⟩
section
variable {P:Program} {n:Nat} {ops:Array Oper} {Q:cq} {rest:List Oper} {l:Fr} {H:World→Prop} {d:Nat} {ty:TypeId} {pos:String} {a6:Array Edge} {x:Operand} {cv dD:TypeId}
theorem Um (b:P.isIface cv=true) (ak:Nat.blt d n=true) (c:ba l x=some .nilIface)
 (h:az P n ops Q rest ((d,.bool true)::l) H):az P n ops Q (⟨some d,.binOp .eql cv x (.const .nilIface) dD,ty,pos,a6,none⟩::rest) l H:=
 df _ ak (λe w a=>by
  have f:e (.const .nilIface)= .nilIface:=a _ _ rfl
  have g:=run_eql_nil_nil_at (P:=P) w cv b
  simp[execOp,a x _ c,f,eqGuard_nil_constR,g]) h
theorem Un {t:TypeId} {p:Value} (b:P.isIface cv=true) (ak:Nat.blt d n=true) (c:ba l x=some (.iface t p))
 (h:az P n ops Q rest ((d,.bool false)::l) H):az P n ops Q (⟨some d,.binOp .eql cv x (.const .nilIface) dD,ty,pos,a6,none⟩::rest) l H:=
 df _ ak (λe w a=>by
  have f:e (.const .nilIface)= .nilIface:=a _ _ rfl
  have g:=run_eql_iface_nil (P:=P) w cv b t p
  have i:eqGuard .eql cv x (.const .nilIface) (.iface t p) .nilIface=pure ():=by rfl
  simp[execOp,a x _ c,f,i,g]) h
end
section
variable {H:Type} {enc:TypeId × Value→H}
theorem handed_and_shaped {a:Assume} {C:Checked} {os:Os} {f:FuncId} {fn:Func} {s:ChangeSpec} {c:List PathCond} {apart g h k:Bool} {X:World→Array Value→Prop}
 (n: ∀(w w':World) (args:Array Value),w.heap=w'.heap→X w args→X w' args)
 (own:ownKnob C.prog.godebug=none) (o:os.Started) (p:C.prog.inits.idxOf? f=none) (q:C.prog.funcs[f]? = some fn)
 (r: ∃(w:World) (tape:Tape) (i:Input),w.os=os∧(w.forCall tape i).Shaped C.prog∧i.vars=[]∧Input.okWide C.prog (w.forCall tape i) .any w.heap.size f i∧
  ((s.pre enc C.prog fn c apart (w.forCall tape i).memory i.args∧X (w.forCall tape i).memory i.args)∧sizedMet enc C.prog fn (OpenSpec.ofChange s) apart (w.forCall tape i).memory i.args)∧a.holds C.prog (lone (Frame.enter C.prog f i.args .normal) [] (w.forCall tape i)))
 (u: ∀(W:World) (base:Nat) (args:Array Value) (b gs:List (DataW H)) (d:List MemPlace),
  (∀(j:Nat) t v,fn.params[j]? = some t→args[j]? = some v→Value.okWide C.prog W .any base t v)→
  DataW.Whole enc C.prog fn.params.toList s.vars apart W args.toList b gs d→
  c.all (PathCond.test C.prog ⟨fn.params.toList,b,s.plain.varTypes C.prog,gs⟩)=true→
  (DataW.weightsEach C.prog (fn.params.toList++s.plain.varTypes C.prog) (b++gs)).all (· ≤reachBytes)=true→X W args→W.ShapedOpen C.prog→
  Calls C.prog f args W λe l=> ∃v,e= .returned v∧s.post enc C.prog fn apart g h k W args v l):
 ReturnsInHanded a C os f .any (λw args=>(s.pre enc C.prog fn c apart w args∧X w args)∧sizedMet enc C.prog fn (OpenSpec.ofChange s) apart w args) (s.post enc C.prog fn apart g h k):=by
 refine returnsInHanded_of_calls own o p r ?_;intro w tape i _ x _ y z _;obtain⟨_,_,_,A,B,_,_,_,_,D⟩:=y;obtain rfl:A=fn:=om (B.symm.trans q);obtain⟨⟨⟨b,gs,d,m,E⟩,F⟩,G⟩:=z;have I:=DataW.Whole.of_heap (w':=w.forCall tape i) bb m
 refine (u (w.forCall tape i) w.heap.size i.args b gs d D I E (G.weights m) (n _ _ _ bb F) x).mono λe l ⟨v,J,ai⟩=>?_
 subst J;exact ChangeSpec.post_blind ai
end
theorem Uo {W:World} (h:W.ShapedOpen prog):rx W:=
 cell_of_shapedOpen_int (t:=3) (zero:= #[.int .i64 0]) h (a1 ab) ab rfl ab ab underlying3
end
end Go.Proofs.YtoghoobfpcadbaaGreatDoor.Mq.Os
