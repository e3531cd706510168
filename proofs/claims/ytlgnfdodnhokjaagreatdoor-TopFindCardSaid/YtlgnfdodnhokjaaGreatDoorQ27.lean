/- part 27 of the proof -/
import Derived.Test.YtlgnfdodnhokjaaGreatDoorQ09
import Derived.Shelf.Strconv.Itoa3
import Derived.Lib.ItoaLen
import Derived.Lib.Join
import Derived.Lib.JoinLaws
import Derived.Lib.AtoiAllCases
import Derived.Lib.ParseIntBCases
import Derived.Shelf.Strings.Split
import Derived.Shelf.GgClosure.StringsIndexFuncTop
import Derived.Lib.ConvBytes
import Derived.Lib.AtoiErrMem
import Derived.Laws.AppendOwn
import Derived.Shelf.Strconv.ErrVarAll
import Derived.Shelf.Lays2
import Derived.WideLaws
import Derived.Stop.IfaceNil
import Derived.HandedShaped
import Derived.Handed
import Derived.Shelf.Vars
namespace Go.Proofs.YtlgnfdodnhokjaaGreatDoor.Mq.Os
open Go Go.RowKit Go.Proofs Tryz
section
def fF (w:World):Prop:=Lib.TabIs prog w "internal/strconv.uint64pow10" .u64 Lib.pow10Tab
theorem vJ {P:Program} {w w':World} {nm:String} {k:IntKind} {b:List Int} (h:Lib.TabIs P w nm k b) (c:Ext [] w w'):Lib.TabIs P w' nm k b:=by
 unfold Lib.TabIs World.var? at *
 obtain⟨g,d,a⟩:=lP.1 h;refine lP.2 ⟨g,d,?_⟩;have e:g<w.heap.size:=by
  rcases ej g w.heap.size with h | h
  exact h;rw[r2 h] at a;cases a
 rw[c.block g e av];exact a
theorem fF.ext {w w':World} (h:fF w) (a:Ext [] w w'):fF w':=vJ h a
theorem aeZ: ∀(u:Nat),∀c∈Lib.decDigits u,48≤c.toNat∧c.toNat≤57:=by
 intro u;induction u using Nat.strongRecOn with
 | _ u b=>
  intro c a;rw[Lib.decDigits] at a
  split at a
  simp only[eb] at a
  subst a;simp
  omega
  rcases cZ.1 a with h | h
  exact b (u/10) aa c h;simp only[eb] at h
  subst h;simp
  omega
def vM (l:List UInt8):Nat:=l.foldl (λa c=>10*a+(c.toNat - 48)) 0
def jN:bA (List UInt8):=⟨λs=>[.string (bs s)],1,λ_=>rfl,λ_=>aI.cons rfl aI.nil⟩
theorem qk: ∀(l:List UInt8) (c:UInt8),(c∉l∧Lib.indexByte l c= -1)∨ ∃pre d,l=pre++c::d∧c∉pre∧Lib.indexByte l c=(pre.length:Int)
 | [],c=> .inl ⟨by simp,rfl⟩
 | b::l,c=>by
  by_cases a:b=c
  subst a;exact .inr ⟨[],l,rfl,by simp,by simp[Lib.indexByte]⟩;rcases qk l c with ⟨e,f⟩ | ⟨pre,d,e,f,g⟩
  exact .inl ⟨by simp[e,Ne.symm a],by simp[Lib.indexByte,a,f]⟩;refine .inr ⟨b::pre,d,by rw[e];rfl,by simp[f,Ne.symm a],?_⟩;have: ¬((pre.length:Int)= -1):=by omega
  simp[Lib.indexByte,a,g,this]
theorem pb {pre post:List UInt8} {sep:UInt8} (h:sep∉pre): (pre++sep::post).takeWhile (· ≠sep)=pre∧((pre++sep::post).dropWhile (· ≠sep)).drop 1=post:=by
 induction pre with
 | nil=>simp
 | cons c pre b=>
  have d:c≠sep:=λe=>h (by simp[e])
  have a:=b (λf=>h (by simp[f]))
  have ak:decide (c≠sep)=true:=bX d
  rw[my,List.takeWhile_cons_of_pos (p:=λx=>decide (x≠sep)) ak,List.dropWhile_cons_of_pos (p:=λx=>decide (x≠sep)) ak,a.1];exact⟨rfl,a.2⟩
def fO (a:UInt8):List UInt8→List (List UInt8)
 | []=>[[]]
 | c::s=>if c=a then []::fO a s else match fO a s with
  | []=>[[c]]
  | p::b=>(c::p)::b
theorem UP (a:UInt8) (s:List UInt8):fO a s≠[]:=by
 cases s with
 | nil=>simp[fO]
 | cons c s=>unfold fO;split <;> (try split) <;> simp
theorem UQ {sep:UInt8} {pre:List UInt8} (h:sep∉pre) (post:List UInt8):fO sep (pre++sep::post)=pre::fO sep post:=by
 induction pre with
 | nil=>simp[fO]
 | cons c pre a=>
  have b: ¬c=sep:=λe=>h (by simp[e])
  rw[my,fO,ag b,a (λd=>h (by simp[d]))]
theorem UR {sep:UInt8} {s:List UInt8} (h:sep∉s):fO sep s=[s]:=by
 induction s with
 | nil=>rfl
 | cons c s a=>
  have b: ¬c=sep:=λe=>h (by simp[e])
  rw[fO,ag b,a (λd=>h (by simp[d]))]
def ki (a:Nat) (c:UInt8):Nat:=10*a+(c.toNat - 48)
theorem Cr (l:List UInt8):vM l=l.foldl ki 0:=rfl
theorem I8: ∀(l:List UInt8) (a:Nat),a≤l.foldl ki a
 | [],_=>bW _
 | c::l,a=>by rw[r6];exact fp (by unfold ki;omega) (I8 l _)
def po (c:UInt8):Bool:=decide (48≤c.toNat∧c.toNat≤57)
def I9 (n:Int):Prop:= -9223372036854775808≤n∧n≤9223372036854775807
instance (n:Int):Decidable (I9 n):=by unfold I9;exact inferInstance
theorem I_: ∀(l:List UInt8) (a:Nat),(∀c∈l,po c=true)→l.foldl ki a<18446744073709551616→Lib.parseUint10 a l= .ok (l.foldl ki a)
 | [],_,_,_=>rfl
 | c::r,a,ak,b=>by
  have d:=aX (ak c av)
  rw[r6] at b ⊢
  have g:=I8 r (ki a c)
  have h:10*a≤ki a c:=by unfold ki;omega
  have e:a*10+(c.toNat - 48)=ki a c:=by unfold ki;omega
  unfold Lib.parseUint10;rw[aw d,ag aa,ag aa,e];exact I_ r _ (λx f=>ak x (by simp[f])) b
def Ja:Shelf.Ren:=⟨λ| 138=>430 | 143=>431 | 146=>339 | 195=>448 | 197=>449 | 217=>407 | 218=>450 | 219=>428 | 221=>400 | 224=>446 | 225=>445 | 260=>461 | 266=>436 | 267=>447 | 268=>429 | 314=>460 | n=>n,λ| 0=>0 | 3=>3 | 4=>4 | 5=>5 | 9=>9 | 21=>21 | 31=>323 | 46=>268 | 51=>116 | 105=>442 | 119=>456 | 138=>458 | 139=>459 | 146=>448 | n=>n,λ| 1=>1 | 3=>3 | 4=>4 | n=>n⟩
theorem US:Lays.n146 prog Ja where
 mixed:=by kernel_rfl
 f138:=func430.trans (aU some ab)
 f143:=func431.trans (aU some ab)
 f146:=func339.trans (aU some ab)
 f195:=func448.trans (aU some ab)
 f197:=func449.trans (aU some ab)
 f217:=func407.trans (aU some ab)
 f218:=func450.trans (aU some ab)
 f219:=func428.trans (aU some ab)
 f221:=func400.trans (aU some ab)
 f224:=func446.trans (aU some ab)
 f225:=func445.trans (aU some ab)
 f260:=func461.trans (aU some ab)
 f266:=func436.trans (aU some ab)
 f267:=func447.trans (aU some ab)
 f268:=func429.trans (aU some ab)
 f314:=func460.trans (aU some ab)
 t0:=underlying0
 a0:=isAgg0
 z0:=sizeOf0
 v0:=zeroValue0
 t3:=underlying3
 a3:=isAgg3
 z3:=sizeOf3
 v3:=zeroValue3
 t4:=underlying4
 a4:=isAgg4
 z4:=sizeOf4
 v4:=zeroValue4
 t5:=underlying5
 a5:=isAgg5
 z5:=sizeOf5
 v5:=zeroValue5
 t9:=underlying9
 a9:=isAgg9
 z9:=sizeOf9
 v9:=zeroValue9
 t21:=underlying21
 a21:=isAgg21
 z21:=sizeOf21
 v21:=zeroValue21
 t31:=underlying323
 a31:=isAgg323
 z31:=sizeOf323
 v31:=zeroValue323
 t46:=underlying268
 a46:=isAgg268
 z46:=sizeOf268
 v46:=zeroValue268
 t51:=underlying116
 a51:=isAgg116
 z51:=sizeOf116
 v51:=zeroValue116
 t105:=underlying442
 a105:=isAgg442
 z105:=sizeOf442
 v105:=zeroValue442
 t119:=underlying456
 a119:=isAgg456
 z119:=sizeOf456
 t138:=underlying458
 a138:=isAgg458
 z138:=sizeOf458
 v138:=zeroValue458
 t139:=underlying459
 a139:=isAgg459
 z139:=sizeOf459
 v139:=zeroValue459
 t146:=underlying448
 a146:=isAgg448
 z146:=sizeOf448
 v146:=zeroValue448
 g1:=by kernel_rfl
 g3:=by kernel_rfl
 g4:=by kernel_rfl
theorem UT:ad prog 339:=ad.of func339 ab ab
theorem index_one (c:UInt8): ∀s:List UInt8,Lib.index s [c]=Lib.indexByte s c
 | []=>rfl
 | b::l=>by
  have e: [c].isPrefixOf (b::l)=(b == c):=by
   show (c == b && List.isPrefixOf [] l)=(b == c)
   rw[show List.isPrefixOf [] l=true by cases l <;> rfl,qH];by_cases h:b=c
   rw[h];rw[beq_eq_false_iff_ne.2 h,beq_eq_false_iff_ne.2 (λe=>h e.symm)]
  unfold Lib.index Lib.indexByte;rw[e,index_one c l]
theorem Jb (c:UInt8) (d:Nat) (g:d=0): ∀(m:Nat) (s:List UInt8),s.length≤m→Lib.splitK [c] d (s.count c) s=fO c s
 | m,s,e=>by
  subst g;rcases qk s c with ⟨f,a⟩ | ⟨pre,b,rfl,a,h⟩
  rw[List.count_eq_zero_of_not_mem f,UR f];rfl
  have i: (pre++c::b).count c=b.count c+1:=by
   rw[List.count_append,List.count_eq_zero_of_not_mem a,List.count_cons_self];omega
  rw[i,UQ a];unfold Lib.splitK;rw[index_one,h,ag av];cases m with
  | zero=>simp at e
  | succ m=>
   have j: ((pre.length:Int)).toNat=pre.length:=by omega
   rw[j,Nat.add_zero,sc,jY,←lJ,List.drop_left',List.drop_one,List.tail_cons,Jb c 0 rfl m b (by simp at e;omega)];rfl
   rfl
theorem UU (w:World) (o:Obj):Ext [] w (w.alloc o):=by
 refine⟨rfl,rfl,rfl,?_,λb a _=>?_⟩;show w.heap.size≤(w.heap.push o).size
 rw[Array.size_push];omega
 show (w.heap.push o)[b]? = w.heap[b]?
 rw[Array.getElem?_push,ag (Nat.ne_of_lt a)]
def rI (w:World):Prop:= ∃m:Int,w.cell? ⟨Ja.g 1,0,none⟩=some (.int .i64 m)
theorem rI.ext {w w':World} (h:rI w) (b:Ext [] w w'):rI w':=by
 obtain⟨m,a⟩:=h;exact⟨m,by rw[b.cell (World.block_lt_of_cell? _ _ a) av];exact a⟩
theorem UV (w:World) (g:rI w) (s:List UInt8) (c:UInt8) (q:s.length≤1000000):
 Calls prog 339 [.string (bs s),.string (bs [c])].toArray w (il jN w (fO c s)):=by
 obtain⟨m,h⟩:=g;refine (Any.strings_Split US ab (bs s) (bs [c]) m w (by rw[hH];omega) h (by rw[hH];exact bW 1)).mono ?_;rintro e w' ⟨rfl,rfl⟩;have b:Lib.countB (bs s) (bs [c])=s.count c:=Lib.count_one c s
 have i: (Lib.splitB (bs [c]) 0 (s.count c) (bs s)).map (·.data.toList)=fO c s:=by
  rw[Lib.splitB_data];exact Jb c 0 rfl _ s (bW _)
 have d: (Lib.splitB (bs [c]) 0 (s.count c) (bs s))=(fO c s).map bs:=by
  rw[←i,mC];conv=>lhs;rw[←List.map_id (Lib.splitB (bs [c]) 0 (s.count c) (bs s))]
  exact uq λx _=>(bs_self x).symm
 have l: (fO c s).length=s.count c+1:=by
  have:=Lib.splitB_all (bs [c]) (by rw[hH];exact bW 1) 0 (s.count c) (bs s) b
  rw[d,cB] at this
  exact this
 have r:s.count c≤s.length:=List.count_le_length
 refine⟨_,_,_,rfl,UU _ _,?_⟩;rw[b,d];refine⟨l,bW _,by simp only[maxLen];omega,λ_=>⟨_,rfl,bW _,λk a j u n f=>?_⟩⟩;have o:j=0∧u= .string (bs a):=by
  cases j with
  | zero=>exact⟨rfl,by simpa [jN] using f.symm⟩
  | succ j=>simp[jN] at f
 obtain⟨rfl,rfl⟩:=o;have p: ((((fO c s).map bs).map Value.string).toArray)[k]? = some (Value.string (bs a)):=by
  rw[List.getElem?_toArray,eD,eD,n];rfl
 rw[Addr.add_lit,Addr.add_lit,World.cell?_alloc_new,show 0+k*jN.sz+0=k from by show 0+k*1+0=k;omega];exact p
theorem yg:ad prog 407:=ad.of func407 ab ab
theorem Bt:ad prog 428:=ad.of func428 ab ab
theorem Bu:ad prog 399:=ad.of func399 ab ab
theorem yh (w:World) (s:List UInt8) (c:UInt8):
 Calls prog 407 [.string (bs s),.int .u8 (c.toNat:Int)].toArray w (λe w'=>e= .returned (.int .i64 (Lib.indexByte s c))∧w'=w):=by
 refine calls (n:=8) func407 rfl ntmps407 rfl ?_;refine aJ ?_;refine xh rfl rfl (λa _=>FU func436 ab ab ab ab s c a) ?_;refine ay ?_;intro d b;exact⟨rfl,b⟩
theorem Bv (w:World) (s:List UInt8) (c:UInt8):
 Calls prog 428 [.string (bs s),.string (bs [c])].toArray w (λe w'=>e= .returned (.int .i64 (Lib.indexByte s c))∧w'=w):=by
 refine calls (n:=143) func428 rfl ntmps428 rfl ?_;refine eL ?_;refine cC rfl rfl av ?_;refine ar ?_;refine cC rfl rfl av ?_;refine ar ?_;refine cC rfl rfl av ?_;refine ar ?_;refine kt rfl rfl av rfl ?_;refine ah ?_;refine aj (λb=>?_) (λb=>?_);refine aJ ?_;intro d a;refine⟨?_,a⟩;rw[←b];simp[Lib.indexByte]
 refine aC ?_;refine eE rfl (av) ?_;refine aS ?_;refine ij (q:=0) underlying9 rfl rfl rfl bc (rfl: [c][0]? = some c) ?_;refine jj rfl yg rfl (λw' _=>yh w' s c) ?_;refine aC ?_;intro d a;exact⟨rfl,a⟩
def iU (s:List UInt8) (c:UInt8):Value:=if c∈s then .tuple #[.string (bs (s.takeWhile (· ≠c))),.string (bs ((s.dropWhile (· ≠c)).drop 1)),.bool true] else .tuple #[.string (bs s),.string (bs []),.bool false]
theorem Bw (w:World) (s:List UInt8) (c:UInt8) (l:s.length≤1000000):
 Calls prog 399 [.string (bs s),.string (bs [c])].toArray w (λe w'=>e= .returned (iU s c)∧Ext [] w w'):=by
 refine aV func399 ntmps399 ?_;refine bx ?_;refine jj rfl Bt rfl (λw' _=>Bv w' s c) ?_;refine aJ ?_;rcases qk s c with ⟨j,a⟩ | ⟨pre,f,b,g,a⟩
 rw[a];refine bH ?_;intro k d;exact⟨by rw[iU,ag j],d.ext⟩;rw[a];refine eE rfl (av) ?_;have m:pre.length+1≤s.length:=by rw[b];simp
 refine ar ?_;refine bF [0,1,2,3,4,5,6,7,8,9,10,11] 0 [[]] ?_;refine aq ?_;refine aL rfl (λh i=>(pJ pre.length underlying9 rfl rfl rfl bc aa aG)) ?_;refine aS ?_;refine aL rfl (λh i=>(hk (r:=((pre.length+1 :Nat):Int)) rfl rfl rfl (by rw[wrap64 (by simp;omega) (by simp;omega)];simp) aG)) ?_;refine aL rfl (λh i=>(pI (pre.length+1) underlying9 rfl rfl rfl bc aa aG)) ?_;refine aJ ?_;intro k d;refine⟨?_,d.ext⟩;rw[iU,aw (by rw[b];simp),b,(pb g).1,(pb g).2,sc,show pre++c::f=(pre++[c])++f by simp,List.drop_left'] <;> simp
theorem Bx (w:World) (s:List UInt8) (c:UInt8) (a:s.length≤1000000):
 Calls prog 338 [.string (bs s),.string (bs [c])].toArray w (λe w'=>e= .returned (iU s c)∧Ext [] w w'):=by
 refine aV func338 ntmps338 ?_;refine bp ?_;refine ao rfl Bu rfl (λw' _=>Bw w' s c a) ?_;obtain⟨x,y,b,d⟩ : ∃x y b,iU s c= .tuple #[.string x,.string y,.bool b]:=by unfold iU;split <;> exact⟨_,_,_,rfl⟩
 rw[d];refine aQ ?_;intro g f;exact⟨rfl,f.ext⟩
theorem UW:ad prog 346:=ad.of func346 ab ab
theorem Jc:ad prog 409:=ad.of func409 ab ab
theorem Jd (w:World) (s p:List UInt8) (f:s.length≤9223372036854775807) (ai:p.length≤9223372036854775807):Calls prog 409 [.string (bs s),.string (bs p)].toArray w (λe w'=>e= .returned (.bool (decide (s.take p.length=p)))∧Ext [] w w'):=by
 refine aV func409 ntmps409 ?_;refine bH ?_;refine aW 10 rfl (λa=>?_) (λa=>?_);have c:=aX a
 refine aC ?_;refine pJ p.length underlying9 rfl rfl rfl bc aa ?_;refine aQ ?_;intro d b;exact⟨rfl,b.ext⟩;have c:=bd a
 refine bx ?_;intro d b;refine⟨?_,b.ext⟩;rw[cg (λe=>c (by have:=aU List.length e;simp at this;omega))]
theorem UX (w:World) (s p:List UInt8) (b:s.length≤9223372036854775807) (ai:p.length≤9223372036854775807):Calls prog 346 [.string (bs s),.string (bs p)].toArray w (λe w'=>e= .returned (.tuple #[.string (bs (if s.take p.length=p then s.drop p.length else s)),.bool (decide (s.take p.length=p))])∧Ext [] w w'):=by
 refine aV func346 ntmps346 ?_;refine bp ?_;refine ao rfl Jc rfl (λw' _=>Jd w' s p b ai) ?_;refine ah ?_;by_cases h:s.take p.length=p
 refine fA rfl ((by rw[bX h];rfl)) ?_;have d:p.length≤s.length:=by have:=aU List.length h;simp at this;omega
 refine aC ?_;refine pI p.length underlying9 rfl rfl rfl bc aa ?_;refine al ?_;intro c a;exact⟨by rw[aw h,bX h],a.ext⟩;refine eE rfl ((by rw[cg h];rfl)) ?_;refine aQ ?_;intro c a;exact⟨by rw[ag h,cg h],a.ext⟩
theorem Je (w:World) (s p:List UInt8) (a:s.length≤9223372036854775807) (ai:p.length≤9223372036854775807):Calls prog 266 [.string (bs s),.string (bs p)].toArray w (λe w'=>e= .returned (.tuple #[.string (bs (if s.take p.length=p then s.drop p.length else s)),.bool (decide (s.take p.length=p))])∧Ext [] w w'):=by
 refine aV func266 ntmps266 ?_;refine aQ ?_;refine ao rfl UW rfl (λw' _=>UX w' s p a ai) ?_;refine aK ?_;intro c b;exact⟨rfl,b.ext⟩
theorem Jf (s:UInt8): ∀t:List UInt8,∀x∈fO s t,s∉x∧x.length≤t.length
 | [],x,a=>by rw[fO,eb] at a;subst a;simp
 | c::t,x,a=>by
  have b:=Jf s t
  unfold fO at a
  split at a
  rcases e1.1 a with rfl | a
  simp
  have:=b x a;exact⟨this.1,by rw[eO];omega⟩
  rename_i e;cases d:fO s t with
  | nil=>exact absurd d (UP s t)
  | cons p g=>
   rw[d] at a b
   dsimp only at a
   rcases e1.1 a with rfl | a
   have:=b p av
   refine⟨λf=>?_,by rw[eO,eO];omega⟩;rcases e1.1 f with h | h
   exact e h.symm;exact this.1 h;have:=b x (by simp[a]);exact⟨this.1,by rw[eO];omega⟩
def jw (g:Nat) (e:TypeId) (xs:List Value):Chunk where
 ch:=[g]
 pred w:= ∃am a,w.heap[g]? = some (.cells am e a)∧xs.length≤a.1∧am.toList.take xs.length=xs
 low w h k c:=by
  simp only[eb] at c
  subst c
  obtain⟨am,a,b,_⟩:=h
  exact (lH.1 b).1
 loc w w' h ai:=by
  obtain⟨am,a,b,d⟩:=ai
  exact⟨am,a,by rw[h g av];exact b,d⟩
theorem UY {am xs:List Value} (h:am.take xs.length=xs) {o:Nat} {v:Value} (a:xs[o]? = some v):am[o]? = some v:=by
 have b:=(cK.1 a).1
 rw[←h,iD] at a
 rwa [aw b] at a
section
variable {b:World} {S:List Nat} {cs:List Chunk} {w:World}
theorem af.Jg (h:af b S cs w) {g e:Nat} {xs:List Value} (a:Has cs (jw g e xs)) {o:Nat} {v:Value} (c:xs[o]? = some v):w.cell? ⟨g,o,none⟩=some v:=by
 obtain⟨am,d,f,j,i⟩:=h.has a;rw[cell_of_row w g o am e d f];have:=UY i c
 rwa [Array.getElem?_toList] at this
theorem Rd.Jh {α:Type} {E:bA α} {L:List α} (h:af b S cs w) {g e c:Nat} (d:Has cs (jw g e (E.all L))) (f:L.length≤c) (i:c≤maxLen):Rd E w (λk=>k=g) (some ⟨g,0,none⟩) L.length c L:=by
 refine⟨rfl,f,i,λ_=>⟨_,rfl,rfl,λk a j u l m=>?_⟩⟩;have:=af.Jg h d (E.lQ l m)
 rw[Addr.add_lit,Addr.add_lit,dE];exact this
theorem af.UZ (h:af b S cs w) (e:Nat) (s:List UInt8):af b S (jw w.heap.size e (cz.all s)::cs) (Lib.bytesWorld w e (bs s)):=by
 have a: (cz.all s).length=s.length:=by rw[cz.dI];exact Nat.mul_one _
 refine h.add (Ext.sk (Lib.bytesWorld_below w e (bs s))) ⟨_,_,Lib.bytesWorld_at_new w e (bs s),?_,?_⟩ (by simp[jw]) (by simp[jw]);show (cz.all s).length≤(Lib.bytesCells w e (bs s)).size
 rw[a];simp[Lib.bytesCells]
 rw[a];have d:cz.all s=s.map (λb=>Value.int .u8 (b.toNat:Int)):=by
  unfold bA.all cz;clear a;induction s with
  | nil=>rfl
  | cons c s f=>rw[jX,f,lM];rfl
 rw[d];simp only[Lib.bytesCells,Array.toList_append,Array.toList_map];rw[sc av]
end
section
variable {P:Program} {n:Nat} {ops:Array Oper} {Q:cq} {rest:List Oper} {l:Fr} {d:Nat} {ty:TypeId} {pos:String} {a7:Array Edge} {b:World} {S:List Nat} {cs:List Chunk}
theorem Ji {x:Operand} {src a e:TypeId} {s:List UInt8} (i:P.underlying src=some .string) (j:P.underlying a=some (.slice e)) (m:P.underlying e=some (.int .u8)) (ak:Nat.blt d n=true) (o:ba l x=some (.string (bs s))) (t:s.length≤1000000)
 (h: ∀g c,b.heap.size≤g→(∀k∈aB cs,k<g)→s.length≤c→c≤maxLen→az P n ops Q rest ((d,.slice (some ⟨g,0,none⟩) s.length c)::l) (af b S (jw g e (cz.all s)::cs))):
 az P n ops Q (⟨some d,.convert src a x,ty,pos,a7,none⟩::rest) l (af b S cs):=by
 refine hD ak λu w p f=>?_
 have q: (bs s).size=s.length:=hH s
 refine⟨.slice (some ⟨w.heap.size,0,none⟩) s.length (grownCap w s.length 0 e),Lib.bytesWorld w e (bs s),?_,(h w.heap.size _ f.ext.size (λk r=>f.lt r) (grownCap_ge _ _ _ _) (grownCap_le_maxLen _ _ _ _ (by simp only[maxLen];omega))).at (af.UZ f e s)⟩;simp only[execOp,p x _ o];rw[Sem.run_bind,Lib.run_convert_string_bytes w src a e (bs s) i j m,q];rfl
end
def Cs:Shelf.Ren:=⟨λ| 129=>294 | 171=>330 | 172=>434 | 205=>471 | 243=>389 | 244=>452 | 245=>453 | 246=>421 | 247=>462 | 279=>463 | 280=>464 | 281=>465 | 282=>466 | 283=>440 | 284=>441 | 285=>442 | 286=>443 | 287=>454 | 316=>470 | 317=>456 | 318=>457 | 319=>458 | 320=>459 | 321=>467 | 322=>468 | 337=>469 | 338=>379 | n=>n,λ| 0=>0 | 2=>2 | 3=>3 | 4=>4 | 5=>5 | 9=>9 | 20=>20 | 21=>21 | 37=>51 | 46=>268 | 51=>116 | 53=>54 | 75=>80 | 76=>81 | 80=>84 | 85=>451 | 127=>155 | 143=>464 | 145=>466 | 167=>450 | 168=>453 | 171=>437 | 173=>439 | 175=>433 | 210=>461 | 212=>446 | 213=>447 | 232=>463 | 233=>427 | n=>n,λ| 15=>5 | 16=>6 | 17=>2 | 18=>7 | 19=>0 | n=>n⟩
theorem U0:LaysC.n172 prog Cs where
 mixed:=by kernel_rfl
 f129:=func294.trans (aU some ab)
 f171:=func330.trans (aU some ab)
 f172:=func434.trans (aU some ab)
 f205:=func471.trans (aU some ab)
 f243:=func389.trans (aU some ab)
 f244:=func452.trans (aU some ab)
 f245:=func453.trans (aU some ab)
 f246:=func421.trans (aU some ab)
 f247:=func462.trans (aU some ab)
 f279:=func463.trans (aU some ab)
 f280:=func464.trans (aU some ab)
 f281:=func465.trans (aU some ab)
 f282:=func466.trans (aU some ab)
 f283:=func440.trans (aU some ab)
 f284:=func441.trans (aU some ab)
 f285:=func442.trans (aU some ab)
 f286:=func443.trans (aU some ab)
 f287:=func454.trans (aU some ab)
 f316:=func470.trans (aU some ab)
 f317:=func456.trans (aU some ab)
 f318:=func457.trans (aU some ab)
 f319:=func458.trans (aU some ab)
 f320:=func459.trans (aU some ab)
 f321:=func467.trans (aU some ab)
 f322:=func468.trans (aU some ab)
 f337:=func469.trans (aU some ab)
 f338:=func379.trans (aU some ab)
 t0:=underlying0
 a0:=isAgg0
 z0:=sizeOf0
 v0:=zeroValue0
 t2:=underlying2
 a2:=isAgg2
 z2:=sizeOf2
 v2:=zeroValue2
 t3:=underlying3
 a3:=isAgg3
 z3:=sizeOf3
 v3:=zeroValue3
 t4:=underlying4
 a4:=isAgg4
 z4:=sizeOf4
 v4:=zeroValue4
 t5:=underlying5
 a5:=isAgg5
 z5:=sizeOf5
 v5:=zeroValue5
 t9:=underlying9
 a9:=isAgg9
 z9:=sizeOf9
 v9:=zeroValue9
 t20:=underlying20
 a20:=isAgg20
 z20:=sizeOf20
 v20:=zeroValue20
 t21:=underlying21
 a21:=isAgg21
 z21:=sizeOf21
 v21:=zeroValue21
 t37:=underlying51
 a37:=isAgg51
 z37:=sizeOf51
 v37:=zeroValue51
 t46:=underlying268
 a46:=isAgg268
 z46:=sizeOf268
 v46:=zeroValue268
 t51:=underlying116
 a51:=isAgg116
 z51:=sizeOf116
 v51:=zeroValue116
 t53:=underlying54
 a53:=isAgg54
 z53:=sizeOf54
 v53:=zeroValue54
 t75:=underlying80
 a75:=isAgg80
 z75:=sizeOf80
 v75:=zeroValue80
 t76:=underlying81
 a76:=isAgg81
 z76:=sizeOf81
 v76:=zeroValue81
 t85:=underlying451
 a85:=isAgg451
 z85:=sizeOf451
 v85:=zeroValue451
 t127:=underlying155
 a127:=isAgg155
 z127:=sizeOf155
 v127:=zeroValue155
 t143:=underlying464
 a143:=isAgg464
 z143:=sizeOf464
 v143:=zeroValue464
 t145:=underlying466
 a145:=isAgg466
 z145:=sizeOf466
 v145:=zeroValue466
 t167:=underlying450
 a167:=isAgg450
 z167:=sizeOf450
 v167:=zeroValue450
 t168:=underlying453
 a168:=isAgg453
 z168:=sizeOf453
 v168:=zeroValue453
 t171:=underlying437
 a171:=isAgg437
 z171:=sizeOf437
 v171:=zeroValue437
 t173:=underlying439
 a173:=isAgg439
 z173:=sizeOf439
 v173:=zeroValue439
 t175:=underlying433
 a175:=isAgg433
 z175:=sizeOf433
 v175:=zeroValue433
 t210:=underlying461
 a210:=isAgg461
 z210:=sizeOf461
 v210:=zeroValue461
 t212:=underlying446
 a212:=isAgg446
 z212:=sizeOf446
 v212:=zeroValue446
 t213:=underlying447
 a213:=isAgg447
 z213:=sizeOf447
 t232:=underlying463
 a232:=isAgg463
 z232:=sizeOf463
 v232:=zeroValue463
 t233:=underlying427
 a233:=isAgg427
 z233:=sizeOf427
 v233:=zeroValue427
 g15:=by kernel_rfl
 g16:=by kernel_rfl
 g17:=by kernel_rfl
 g18:=by kernel_rfl
 g19:=by kernel_rfl
 t80:=underlying84
 a80:=isAgg84
 z80:=sizeOf84
 v80:=zeroValue84
 i0:=by kernel_rfl
 i2:=by kernel_rfl
 i3:=by kernel_rfl
 i4:=by kernel_rfl
 i5:=by kernel_rfl
 i9:=by kernel_rfl
 i20:=by kernel_rfl
 i21:=by kernel_rfl
 i37:=by kernel_rfl
 i46:=by kernel_rfl
 i51:=by kernel_rfl
 i53:=by kernel_rfl
 i75:=by kernel_rfl
 i76:=by kernel_rfl
 i80:=by kernel_rfl
 i85:=by kernel_rfl
 i127:=by kernel_rfl
 i143:=by kernel_rfl
 i145:=by kernel_rfl
 i167:=by kernel_rfl
 i168:=by kernel_rfl
 i171:=by kernel_rfl
 i173:=by kernel_rfl
 i175:=by kernel_rfl
 i210:=by kernel_rfl
 i212:=by kernel_rfl
 i232:=by kernel_rfl
 i233:=by kernel_rfl
 m15:=by kernel_rfl
 m16:=by kernel_rfl
 m17:=by kernel_rfl
 m18:=by kernel_rfl
 m19:=by kernel_rfl
 c0:=by kernel_rfl
 c2:=by kernel_rfl
 c3:=by kernel_rfl
 c4:=by kernel_rfl
 c5:=by kernel_rfl
 c9:=by kernel_rfl
 c20:=by kernel_rfl
 c21:=by kernel_rfl
 c37:=by kernel_rfl
 c46:=by kernel_rfl
 c51:=by kernel_rfl
 c53:=by kernel_rfl
 c75:=by kernel_rfl
 c76:=by kernel_rfl
 c80:=by kernel_rfl
 c85:=by kernel_rfl
 c127:=by kernel_rfl
 c143:=by kernel_rfl
 c145:=by kernel_rfl
 c167:=by kernel_rfl
 c168:=by kernel_rfl
 c171:=by kernel_rfl
 c173:=by kernel_rfl
 c175:=by kernel_rfl
 c210:=by kernel_rfl
 c212:=by kernel_rfl
 c213:=by kernel_rfl
 c232:=by kernel_rfl
 c233:=by kernel_rfl
theorem U1:ad prog 434:=ad.of func434 ab ab
def pp (w:World):Prop:=(∃t p,w.cell? ⟨Cs.g 15,0,none⟩=some (.iface t p))∧(∃t p,w.cell? ⟨Cs.g 16,0,none⟩=some (.iface t p))
theorem pp.ext {w w':World} (h:pp w) (a:Ext [] w w'):pp w':=by
 obtain⟨⟨t,p,b⟩,⟨d,gk,c⟩⟩:=h;exact⟨⟨t,p,by rw[a.cell (World.block_lt_of_cell? _ _ b) av];exact b⟩,⟨d,gk,by rw[a.cell (World.block_lt_of_cell? _ _ c) av];exact c⟩⟩
theorem U2 (w:World) (s:List UInt8) (v:Int) (a:s.length≤1000000) (h:Lib.atoiAll s= .ok v):
 Calls prog 434 [.string (bs s)].toArray w (λe w'=>e= .returned (.tuple #[.int .i64 v,.nilIface])∧Ext [] w w'):=by
 refine (Any.strconv_Atoi_ok U0 (bs s) (by rw[hH];omega) v h w).mono ?_;rintro e w' ⟨rfl,rfl | ⟨t,rfl⟩⟩;exact⟨rfl,Ext.refl _ _⟩;exact⟨rfl,Ext.sk (Lib.bytesWorld_below w _ _)⟩
section
variable {P:Program} {n:Nat} {ops:Array Oper} {Q:cq} {rest:List Oper} {l:Fr} {H:World→Prop} {d:Nat} {ty:TypeId} {pos:String} {a7:Array Edge} {x:Operand} {cv dx:TypeId}
theorem U3 (b:P.isIface cv=true) (ak:Nat.blt d n=true) (c:ba l x=some .nilIface)
 (h:az P n ops Q rest ((d,.bool true)::l) H):az P n ops Q (⟨some d,.binOp .eql cv x (.const .nilIface) dx,ty,pos,a7,none⟩::rest) l H:=
 dd _ ak (λe w a=>by
  have f:e (.const .nilIface)= .nilIface:=a _ _ rfl
  have g:=run_eql_nil_nil_at (P:=P) w cv b
  simp[execOp,a x _ c,f,eqGuard_nil_constR,g]) h
theorem U4 {t:TypeId} {p:Value} (b:P.isIface cv=true) (ak:Nat.blt d n=true) (c:ba l x=some (.iface t p))
 (h:az P n ops Q rest ((d,.bool false)::l) H):az P n ops Q (⟨some d,.binOp .eql cv x (.const .nilIface) dx,ty,pos,a7,none⟩::rest) l H:=
 dd _ ak (λe w a=>by
  have f:e (.const .nilIface)= .nilIface:=a _ _ rfl
  have g:=run_eql_iface_nil (P:=P) w cv b t p
  have i:eqGuard .eql cv x (.const .nilIface) (.iface t p) .nilIface=pure ():=by rfl
  simp[execOp,a x _ c,f,i,g]) h
end
section
variable {H:Type} {enc:TypeId × Value→H}
theorem handed_and_shaped {a:Assume} {C:Checked} {os:Os} {f:FuncId} {fn:Func} {s:ChangeSpec} {c:List PathCond} {apart g h k:Bool} {X:World→Array Value→Prop}
 (n: ∀(w w':World) (args:Array Value),w.heap=w'.heap→X w args→X w' args)
 (own:ownKnob C.prog.godebug=none) (o:os.Started) (p:C.prog.inits.idxOf? f=none) (q:C.prog.funcs[f]? = some fn)
 (r: ∃(w:World) (tape:Tape) (i:Input),w.os=os∧(w.forCall tape i).Shaped C.prog∧i.vars=[]∧Input.okWide C.prog (w.forCall tape i) .any w.heap.size f i∧
  ((s.pre enc C.prog fn c apart (w.forCall tape i).memory i.args∧X (w.forCall tape i).memory i.args)∧sizedMet enc C.prog fn (OpenSpec.ofChange s) apart (w.forCall tape i).memory i.args)∧a.holds C.prog (lone (Frame.enter C.prog f i.args .normal) [] (w.forCall tape i)))
 (u: ∀(W:World) (base:Nat) (args:Array Value) (b gs:List (DataW H)) (d:List MemPlace),
  (∀(j:Nat) t v,fn.params[j]? = some t→args[j]? = some v→Value.okWide C.prog W .any base t v)→
  DataW.Whole enc C.prog fn.params.toList s.vars apart W args.toList b gs d→
  c.all (PathCond.test C.prog ⟨fn.params.toList,b,s.plain.varTypes C.prog,gs⟩)=true→
  (DataW.weightsEach C.prog (fn.params.toList++s.plain.varTypes C.prog) (b++gs)).all (· ≤reachBytes)=true→X W args→W.ShapedOpen C.prog→
  Calls C.prog f args W λe l=> ∃v,e= .returned v∧s.post enc C.prog fn apart g h k W args v l):
 ReturnsInHanded a C os f .any (λw args=>(s.pre enc C.prog fn c apart w args∧X w args)∧sizedMet enc C.prog fn (OpenSpec.ofChange s) apart w args) (s.post enc C.prog fn apart g h k):=by
 refine returnsInHanded_of_calls own o p r ?_;intro w tape i _ x _ y z _;obtain⟨_,_,_,A,B,_,_,_,_,D⟩:=y;obtain rfl:A=fn:=oA (B.symm.trans q);obtain⟨⟨⟨b,gs,d,m,E⟩,F⟩,G⟩:=z;have I:=DataW.Whole.of_heap (w':=w.forCall tape i) bc m
 refine (u (w.forCall tape i) w.heap.size i.args b gs d D I E (G.weights m) (n _ _ _ bc F) x).mono λe l ⟨v,J,ai⟩=>?_
 subst J;exact ChangeSpec.post_blind ai
end
theorem U5 {W:World} (h:W.ShapedOpen prog):rI W:=
 cell_of_shapedOpen_int (t:=3) (zero:= #[.int .i64 0]) h (aX ab) ab rfl ab ab underlying3
end
end Go.Proofs.YtlgnfdodnhokjaaGreatDoor.Mq.Os
