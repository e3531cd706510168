/- part 27 of the proof -/
import Derived.Test.YtoghoobfpcadbaaGreatDoorQ26
import Derived.Shelf.Strings.Builder1
import Derived.Shelf.Pu.ToError
namespace Go.Proofs.YtoghoobfpcadbaaGreatDoor.Mq.Os
open Go Go.RowKit Go.Proofs Tryz
section
def lw (c lo hi:UInt8):Bool:=decide (lo.toNat≤c.toNat) && decide (c.toNat≤hi.toNat)
def cP (c:UInt8):Int:=if lw c 48 57 then (c.toNat:Int) - 48 else if lw c 97 102 then (c.toNat:Int) - 97+10 else if lw c 65 70 then (c.toNat:Int) - 65+10 else -1
def nW (a b:UInt8):UInt8:=UInt8.ofNat (16*(cP a).toNat+(cP b).toNat)
def ff:List UInt8→List UInt8 × Bool
 | []=>([],true)
 | [c]=>([c],decide (c≠37))
 | [c,d]=>(c::(ff [d]).1,decide (c≠37) && (ff [d]).2)
 | c::a::b::t=>
  if c≠37 then (c::(ff (a::b::t)).1,(ff (a::b::t)).2)
  else if 0≤cP a∧0≤cP b then (nW a b::(ff t).1,(ff t).2)
  else (37::(ff (a::b::t)).1,false)
def qm (c:UInt8):UInt8:=if lw c 65 90 then UInt8.ofNat (c.toNat+32) else c
theorem yp (c:UInt8): -1≤cP c∧cP c≤15:=by
 unfold cP lw;have:=c.toNat_lt
 simp only[d_,e2];have a: (48 :UInt8).toNat=48:=rfl
 have b: (57 :UInt8).toNat=57:=rfl
 have d: (97 :UInt8).toNat=97:=rfl
 have e: (102 :UInt8).toNat=102:=rfl
 have f: (65 :UInt8).toNat=65:=rfl
 have g: (70 :UInt8).toNat=70:=rfl
 rw[a,b,d,e,f,g];split
 omega
 split
 omega
 split <;> omega
theorem Up {p:UInt8→Prop} (h: ∀n:_root_.Fin 256,p (UInt8.ofNat n.val)) (c:UInt8):p c:=by
 have:=h ⟨c.toNat,c.toNat_lt⟩
 simpa using this
theorem IF {c:UInt8} (h:c≠37) (t:List UInt8):ff (c::t)=(c::(ff t).1,(ff t).2):=by
 match t with
 | []=>simp[ff,h]
 | [d]=>simp[ff,h]
 | a::b::t=>rw[ff,ay h]
theorem IG {a b:UInt8} (c:0≤cP a) (d:0≤cP b) (t:List UInt8):ff (37::a::b::t)=(nW a b::(ff t).1,(ff t).2):=by
 rw[ff,ag av,ay ⟨c,d⟩]
theorem Cd {t:List UInt8} (h: ∀a b u,t=a::b::u→ ¬(0≤cP a∧0≤cP b)):ff (37::t)=(37::(ff t).1,false):=by
 match t,h with
 | [],_=>simp[ff]
 | [d],_=>simp[ff]
 | a::b::t,h=>rw[ff,ag av,ag (h a b t rfl)]
theorem yq: ∀(n:Nat) (s:List UInt8),s.length≤n→(ff s).1.length≤s.length
 | _,[],_=>by simp[ff]
 | 0,_::_,h=>by simp at h
 | n+1,c::t,h=>by
  simp only[eK] at h ⊢
  by_cases d:c=37
  subst d;by_cases f: ∃a b u,t=a::b::u∧0≤cP a∧0≤cP b
  obtain⟨a,b,u,rfl,i,j⟩:=f;rw[IG i j];simp only[eK] at h ⊢
  have:=yq n u aa
  omega
  rw[Cd (λa b u e g=>f ⟨a,b,u,e,g.1,g.2⟩)];have:=yq n t aa
  simp only[eK];omega
  rw[IF d];have:=yq n t aa
  simp only[eK];omega
def yr:List UInt8:=[102,105,108,101,58,47,47]
def ys (s:List UInt8):List UInt8:=s.map qm
def pd (s:List UInt8):Option (List UInt8 × List UInt8):=
 if 7≤s.length∧ys (s.take 7)=yr then
  (if Lib.indexByte (s.drop 7) 47<0 then none else some ((s.drop 7).take (Lib.indexByte (s.drop 7) 47).toNat,(ff ((s.drop 7).drop (Lib.indexByte (s.drop 7) 47).toNat)).1))
 else none
theorem ro (w:World) (c lo hi:UInt8):
 Calls prog 420 [.int .u8 (c.toNat:Int),.int .u8 (lo.toNat:Int),.int .u8 (hi.toNat:Int)].toArray w (λe w'=>e= .returned (.bool (lw c lo hi))∧w'=w):=by
 refine calls (n:=15) func420 rfl ntmps420 rfl ?_;refine bp ?_;refine aX 10 rfl (λa=>?_) (λa=>?_);have d:=a1 a
 refine bB ?_;intro f b;exact⟨by unfold lw;rw[b5 (show lo.toNat≤c.toNat by omega)];simp,b⟩;have d:=bc a
 refine aJ ?_;intro f b;exact⟨by unfold lw;rw[bO (show ¬lo.toNat≤c.toNat by omega)];rfl,b⟩
theorem IH (w:World) (c:UInt8):
 Calls prog 469 [.int .u8 (c.toNat:Int)].toArray w (λe w'=>e= .returned (.int .i64 (cP c))∧w'=w):=by
 have h:=c.toNat_lt
 refine calls (n:=23) func469 rfl ntmps469 rfl ?_;refine aR ?_;refine je rfl w2 rfl (λw' _=>ro w' c 48 57) ?_;refine ah ?_;refine b6 rfl (λa=>?_) (λa=>?_);have b:48≤c.toNat:=by simp[lw] at a;exact a.1
 refine ah ?_;refine gN rfl rfl rfl (r:=(c.toNat:Int) - 48) (np aa aa) ?_;refine aL ?_;intro g d;exact⟨by rw[cP,ay a],d⟩;refine ah ?_;refine je rfl w2 rfl (λw' _=>ro w' c 97 102) ?_;refine ah ?_;refine b6 rfl (λb=>?_) (λb=>?_);have f:97≤c.toNat:=by simp[lw] at b;exact b.1
 refine ah ?_;refine gN rfl rfl rfl (r:=(c.toNat:Int) - 97) (np aa aa) ?_;refine aJ ?_;intro g d;exact⟨by rw[cP,ag (by simp[a]),ay b],d⟩;refine ah ?_;refine je rfl w2 rfl (λw' _=>ro w' c 65 70) ?_;refine ah ?_;refine b6 rfl (λf=>?_) (λf=>?_);have i:65≤c.toNat:=by simp[lw] at f;exact f.1
 refine ah ?_;refine gN rfl rfl rfl (r:=(c.toNat:Int) - 65) (np aa aa) ?_;refine aJ ?_;intro g d;exact⟨by rw[cP,ag (by simp[a]),ag (by simp[b]),ay f],d⟩;refine aR ?_;intro g d;exact⟨by rw[cP,ag (by simp[a]),ag (by simp[b]),ag (by simp[f])],d⟩
theorem Uq (w:World) (s:List UInt8) (c:UInt8):
 Calls prog 356 [.string (bs s),.int .u8 (c.toNat:Int)].toArray w (λe w'=>e= .returned (.int .i64 (Lib.indexByte s c))∧w'=w):=by
 refine calls (n:=8) func356 rfl ntmps356 rfl ?_;refine aJ ?_;refine je rfl x4 rfl (λw' _=>x5 w' s c) ?_;refine ax ?_;intro b a;exact⟨rfl,a⟩
def yt (a b:UInt8):Int:=IntKind.u8.wrap (((max 0 (cP a)).toNat*16 ||| (max 0 (cP b)).toNat:Nat):Int)
def tz (s:List UInt8) (i:Nat):Value:=if i+2<s.length then .tuple #[.int .u8 (yt (s.getD (i+1) 0) (s.getD (i+2) 0)),.bool (decide (0≤cP (s.getD (i+1) 0)) && decide (0≤cP (s.getD (i+2) 0)))] else .tuple #[.int .u8 0,.bool false]
theorem II (w:World) (s:List UInt8) (i:Nat) (u:s.length≤1000000) (hi:i<s.length):
 Calls prog 451 [.string (bs s),.int .i64 (i:Int)].toArray w (λe w'=>e= .returned (tz s i)∧Ext [] w w'):=by
 refine aW func451 ntmps451 ?_;refine dx ?_;refine aj (λt=>?_) (λt=>?_);refine aJ ?_;intro j c;exact⟨by rw[tz,ag aa],c.ext⟩;obtain⟨a,k⟩ : ∃a,s[i+1]? = some a:=⟨s[i+1]'aa,bG _⟩;obtain⟨b,l⟩ : ∃b,s[i+2]? = some b:=⟨s[i+2]'aa,bG _⟩;have v:=yp a
 have x:=yp b
 refine ah ?_;refine bF [0,1,2,3,4,5,6,7,8,9,10,11] 0 [[]] ?_;refine ah ?_;refine aI rfl (λd f=>(ii (q:=i+1) underlying9 rfl rfl rfl aa k aC)) ?_;refine aI rfl (λd f=>(je rfl Fk rfl (λw' _=>IH w' a) aC)) ?_;refine ah ?_;refine aI rfl (λd f=>(ii (q:=i+2) underlying9 rfl rfl rfl aa l aC)) ?_;refine aI rfl (λd f=>(je rfl Fk rfl (λw' _=>IH w' b) aC)) ?_;refine al ?_;have y: (max 0 (cP a)).toNat*16 ||| (max 0 (cP b)).toNat<2 ^ 8:=oi aa aa
 refine ah ?_;refine oC rfl rfl rfl aZ (r:=max 0 (cP a)*16) (by rw[show min (4 :Int).toNat IntKind.i64.bits=4 from rfl];exact wrap64 aa aa) ?_;refine aq ?_;refine mD rfl rfl rfl (r:=(((max 0 (cP a)).toNat*16 ||| (max 0 (cP b)).toNat:Nat):Int)) (or_eq (m:=(max 0 (cP a)).toNat*16) (n:=(max 0 (cP b)).toNat) aa aa (by show _<2 ^ 64;omega) (by show _<2 ^ 64;omega) (wrap64 aa aa)) ?_;refine dm rfl rfl underlying3 underlying5 (r:=yt a b) rfl ?_;refine ah ?_;have o:s.getD (i+1) 0=a:=by simp[List.getD,k]
 have p:s.getD (i+2) 0=b:=by simp[List.getD,l]
 refine aX 32 rfl (λg=>?_) (λg=>?_);have h:=a1 g
 refine bp ?_;intro j c;exact⟨by rw[tz,ay aa,o,p,b5 h,Bool.true_and],c.ext⟩;have h:=bc g
 refine aJ ?_;intro j c;exact⟨by rw[tz,ay aa,o,p,bO h,Bool.false_and],c.ext⟩
theorem Ur (w:World) (c:UInt8):
 Calls prog 419 [.int .u8 (c.toNat:Int)].toArray w (λe w'=>e= .returned (.string (bs [qm c]))∧Ext [] w w'):=by
 have j:=c.toNat_lt
 refine aW func419 ntmps419 ?_;refine aJ ?_;refine je rfl w2 rfl (λw' _=>ro w' c 65 90) ?_;refine aq ?_;refine b6 rfl (λa=>?_) (λa=>?_);have k:c.toNat≤90:=by simp[lw] at a;exact a.2
 refine aq ?_;refine gu rfl rfl rfl (r:=((qm c).toNat:Int)) (by rw[np aa aa,qm,ay a];simp;omega) ?_;refine aD ?_;intro f g h;refine jd (s:=[qm c]) underlying59 underlying5 underlying9 rfl rfl (λw' b=>Rd.ho (E:=cD) (L:=[qm c]) b Has.head rfl aZ) ?_;refine ax ?_;intro i d;exact⟨rfl,d.ext⟩;refine al ?_;intro f g h;refine jd (s:=[c]) underlying59 underlying5 underlying9 rfl rfl (λw' b=>Rd.ho (E:=cD) (L:=[c]) b Has.head rfl aZ) ?_;refine ax ?_;intro i d;exact⟨by rw[qm,ag (by simp[a])],d.ext⟩
def tA:Shelf.Ren:=⟨λ| 166=>72 | 169=>73 | 240=>125 | 276=>192 | n=>n,λ| 0=>0 | 3=>3 | 4=>4 | 5=>5 | 9=>9 | 20=>20 | 37=>59 | 70=>79 | 72=>81 | 75=>176 | 80=>49 | 127=>229 | 164=>286 | n=>n,λn=>n⟩
theorem Us:Lays.n166 prog tA where
 mixed:=by kernel_rfl
 f166:=func72.trans (aV some ab)
 f240:=func125.trans (aV some ab)
 f276:=func192.trans (aV some ab)
 t0:=underlying0
 a0:=isAgg0
 z0:=sizeOf0
 v0:=zeroValue0
 t3:=underlying3
 a3:=isAgg3
 z3:=sizeOf3
 v3:=zeroValue3
 t4:=underlying4
 a4:=isAgg4
 z4:=sizeOf4
 v4:=zeroValue4
 t9:=underlying9
 a9:=isAgg9
 z9:=sizeOf9
 v9:=zeroValue9
 t20:=underlying20
 a20:=isAgg20
 z20:=sizeOf20
 v20:=zeroValue20
 t37:=underlying59
 a37:=isAgg59
 z37:=sizeOf59
 v37:=zeroValue59
 t70:=underlying79
 a70:=isAgg79
 z70:=sizeOf79
 v70:=zeroValue79
 t72:=underlying81
 a72:=isAgg81
 z72:=sizeOf81
 v72:=zeroValue81
 t75:=underlying176
 a75:=isAgg176
 z75:=sizeOf176
 v75:=zeroValue176
 t164:=underlying286
 a164:=isAgg286
 z164:=sizeOf286
 v164:=zeroValue286
theorem yu:Lays.n169 prog tA where
 mixed:=by kernel_rfl
 f169:=func73.trans (aV some ab)
 t0:=underlying0
 a0:=isAgg0
 z0:=sizeOf0
 v0:=zeroValue0
 t3:=underlying3
 a3:=isAgg3
 z3:=sizeOf3
 v3:=zeroValue3
 t9:=underlying9
 a9:=isAgg9
 z9:=sizeOf9
 v9:=zeroValue9
 t37:=underlying59
 a37:=isAgg59
 z37:=sizeOf59
 v37:=zeroValue59
 t70:=underlying79
 a70:=isAgg79
 z70:=sizeOf79
 v70:=zeroValue79
 t72:=underlying81
 a72:=isAgg81
 z72:=sizeOf81
 v72:=zeroValue81
 t127:=underlying229
 a127:=isAgg229
 z127:=sizeOf229
 v127:=zeroValue229
theorem vC:Builder.Extra prog tA where
 sizeBuilder:=by kernel_rfl
 liesBuilder:=by kernel_rfl
 t5:=underlying5
 a5:=isAgg5
 z5:=sizeOf5
 v5:=zeroValue5
 infoByte:=by kernel_rfl
 cellsByte:=by kernel_rfl
 sizeByte:=by kernel_rfl
 neB5:=by decide
theorem Ut.ext {c b:Nat} {xs:List Value} {w w':World} {T e:TypeId} (h:Lib.IsBuilder T e c b xs w) (a:Ext [] w w'):Lib.IsBuilder T e c b xs w':=by
 have d: ∀p,Lib.BuilderAt T e c b p xs w→Lib.BuilderAt T e c b p xs w':=by
  intro p ai;have f:=ai.lt
  obtain⟨g,v,i,j,l⟩:=ai;refine⟨g,v,?_,j.kept (row:=none) ⟨a.os,a.tape,a.output,a.size,λk m _=>a.block k m av⟩ ?_,l⟩;rw[a.block b f av];exact i
  cases v.ownBlock <;> simp
 exact h.elim (λx=> .inl (d _ x)) (λx=> .inr (d _ x))
def tB (w:World) (b:Nat) (s:List UInt8) (w':World):Prop:=Ext [] w w'∧Lib.IsBuilder 81 5 w.heap.size b (Lib.byteCells s) w'
theorem Ext.vD {w w' b:World} (h:Ext [] w w') (a:Below w.heap.size w' b):Ext [] w b:=
 ⟨a.os.trans h.os,a.tape.trans h.tape,a.output.trans h.output,fs h.size a.size,λk c d=>(a.block k c).trans (h.block k c d)⟩
theorem BX (w:World) (b:Nat) (s t:List UInt8) (w':World) (h:tB w b s w') (c:s.length+t.length≤140737488355328):
 Calls prog 72 [.pointer (some ⟨b,0,none⟩),.string (bs t)].toArray w' (λe a=>e= .returned (.tuple #[.int .i64 (t.length:Int),.nilIface])∧tB w b (s++t) a):=by
 have:=Any.Builder_WriteString Us vC w.heap.size b (Lib.byteCells s) (bs t) w' h.2 (by rw[Lib.byteCells_length,hH];exact c) h.1.size
 refine Calls.mono this ?_;rintro e a ⟨rfl,d,f⟩;refine⟨by rw[hH],Ext.vD h.1 f,.inr ?_⟩;have e:Lib.byteCells (s++t)=Lib.byteCells s++Lib.strCells (bs t):=by rw[Lib.strCells_eq];simp[Lib.byteCells]
 rw[e];exact d
theorem Uu (w:World) (b:Nat) (s:List UInt8) (w':World) (h:tB w b s w'):
 Calls prog 73 [.pointer (some ⟨b,0,none⟩)].toArray w' (λe a=>e= .returned (.string (bs s))∧Ext [] w a):=by
 by_cases d:s=[]
 subst d;refine Calls.mono (Any.Builder_String_empty yu vC w.heap.size b w' h.2 h.1.size) ?_;rintro e a ⟨rfl,c⟩;exact⟨rfl,Ext.vD h.1 c⟩;refine Calls.mono (Any.Builder_String yu vC w.heap.size b s w' h.2 d) ?_;rintro e a ⟨rfl,c⟩;exact⟨rfl,Ext.vD h.1 c⟩
theorem Uv:ad prog 72:=ad.of func72 ab ab
theorem Ce:ad prog 73:=ad.of func73 ab ab
theorem x6 (w:World) (f:FuncId) (g:UInt8→List UInt8) (m:ad prog f) (n: ∀w' c,Calls prog f [.int .u8 (UInt8.toNat c:Int)].toArray w' (λe d=>e= .returned (.string (bs (g c)))∧Ext [] w' d)) (h: ∀c,(g c).length≤3) (s:List UInt8) (z:s.length≤1000000):
 Calls prog 418 [.string (bs s),.func (.func f) #[] #[]].toArray w (λe w'=>e= .returned (.string (bs (s.flatMap g)))∧Ext [] w w'):=by
 have o: ∀l:List UInt8,(l.flatMap g).length≤3*l.length:=by
  intro l;induction l with
  | nil=>simp
  | cons c l A=>have:=h c;simp only[n_,b8,eK];omega
 refine aW func418 ntmps418 ?_;refine aL ?_;intro b p B;refine aJ ?_;refine b1 (ι:=Nat) (λi=>[(0,.string (bs s)),(1,.func (.func f) #[] #[]),(5,.pointer (some ⟨b,0,none⟩)),(6,.int .i64 (i:Int))]) (λi=>tB w b ((s.take i).flatMap g)) (λi=>i≤s.length) (λi=>s.length - i) ?_ ?_;refine λw' a=>⟨0,bP _,(cw rfl rfl rfl rfl),a.ext,.inl ?_⟩
 have r:=a.has (c:=aE b [.pointer none,.slice none 0 0] 81) Has.head
 exact⟨p,.slice none 0 0,r,World.ownsRow_nil _ _ _ _,by simp[Value.ownBlock]⟩;rintro i hi;refine aJ ?_;refine aj (λt=>?_) (λt=>?_);obtain⟨c,j⟩ : ∃c,s[i]? = some c:=⟨s[i]'aa,bG _⟩;have u: (s.take (i+1)).flatMap g=(s.take i).flatMap g++g c:=by rw[gk,j,pt,ue];simp
 have C:=o (s.take i)
 have D:=h c
 have E: (s.take i).length≤s.length:=by rw[dv];omega
 refine aL ?_;refine ii (q:=i) underlying9 rfl rfl rfl aa j ?_;refine Ak (v:= .string (bs (g c))) (H':=tB w b ((s.take i).flatMap g)) rfl rfl m rfl (λw' a=>?_) ?_;refine Calls.mono (n w' c) ?_;rintro e d ⟨rfl,k⟩;exact⟨rfl,a.1.dZ k,Ut.ext a.2 k⟩;refine sC (v:= .tuple #[.int .i64 ((g c).length:Int),.nilIface]) (H':=tB w b ((s.take (i+1)).flatMap g)) rfl Uv rfl (λw' a=>?_) ?_;rw[u];exact BX w b _ (g c) w' a aa;refine aL ?_;exact bg (i+1) aa aa bR (λw' a=>a);have x:s.take i=s:=ez aa
 rw[x];refine aD ?_;refine sC (v:= .string (bs (s.flatMap g))) (H':=λw'=>Ext [] w w') rfl Ce rfl (λw' a=>Uu w b _ w' a) ?_;refine ax ?_;intro F y;exact⟨rfl,y⟩
theorem Uw (w:World) (s:List UInt8) (a:s.length≤1000000):
 Calls prog 355 [.string (bs s)].toArray w (λe w'=>e= .returned (.string (bs (ys s)))∧Ext [] w w'):=by
 refine aW func355 ntmps355 ?_;refine aL ?_;refine ao rfl OW rfl (λw' _=>x6 w' 419 (λc=>[qm c]) OX (λb c=>Ur b c) (λc=>by simp) s a) ?_;refine ax ?_;intro f d;refine⟨?_,d.ext⟩;rw[ys,List.map_eq_flatMap]
set_option maxRecDepth 100000 in
theorem Ux: ∀a b:_root_.Fin 16,a.val*16 ||| b.val=a.val*16+b.val:=by decide
theorem Uy {a b:UInt8} (f:0≤cP a) (g:0≤cP b):yt a b=((nW a b).toNat:Int):=by
 have h:=yp a
 have i:=yp b
 have d:max 0 (cP a)=cP a:=by omega
 have e:max 0 (cP b)=cP b:=by omega
 have c:=Ux ⟨(cP a).toNat,aa⟩ ⟨(cP b).toNat,aa⟩
 dsimp only at c
 rw[yt,d,e,c,np aa aa,nW];have: (UInt8.ofNat (16*(cP a).toNat+(cP b).toNat)).toNat=16*(cP a).toNat+(cP b).toNat:=by
  rw[qM];omega
 omega
theorem Au (w:World) (s:List UInt8) (p:s.length≤1000000):
 Calls prog 422 [.string (bs s)].toArray w (λe w'=>e= .returned (.tuple #[.string (bs (ff s).1),.bool (ff s).2])∧Ext [] w w'):=by
 refine aW func422 ntmps422 ?_;refine aD ?_;refine jS 5 1 ?_;refine dx ?_;refine b1 (ι:=Nat × Value × List UInt8 × Bool) (λt=>[(0,.string (bs s)),(4,t.2.1),(5,.bool t.2.2.2),(6,.int .i64 (t.1 :Int))]) (λt=>af w [] [own 5 1 t.2.1 t.2.2.1.length (cD.all t.2.2.1)]) (λt=>t.1≤s.length∧t.2.2.1.length≤t.1∧ff s=(t.2.2.1++(ff (s.drop t.1)).1,t.2.2.2 && (ff (s.drop t.1)).2)) (λt=>s.length - t.1) ?_ ?_;exact λw' f=>⟨(0,.slice none 0 0,[],true),⟨bP _,bP _,by simp⟩,(cw rfl rfl rfl rfl),f⟩
 rintro⟨i,v,g,r⟩ ⟨hi,G,d⟩;dsimp only at hi G d ⊢
 refine aJ ?_;refine aj (λH=>?_) (λH=>?_);obtain⟨c,l⟩ : ∃c,s[i]? = some c:=⟨s[i]'aa,bG _⟩;have ak:s.drop i=c::s.drop (i+1):=by rw[lG aa,(cY.1 l).2]
 have j: ∀x:UInt8,cD.all (g++[x])=cD.all g++cD.enc x:=λx=>bx.hk cD g x
 rw[ak] at d
 refine aJ ?_;refine ii (q:=i) underlying9 rfl rfl rfl aa l ?_;refine ah ?_;refine aj (λz=>?_) (λz=>?_);have m:c≠37:=λe=>z (by rw[e];rfl)
 refine ax ?_;refine ii (q:=i) underlying9 rfl rfl rfl aa l ?_;refine ar ?_;intro X Y Z;refine gv fk rfl rfl rfl bi (λ_=>by exact cA) rfl (im rfl) (by simp only[maxLen];omega) aa (λI Za=>?_);refine bB ?_;rw[IF m] at d
 refine bg (i+1,I,g++[c],r) ⟨by dsimp only;omega,by simp;omega,by rw[d];simp⟩ bm (cw rfl rfl rfl rfl) (λw' f=>?_);dsimp only;rw[j,b8];exact f;have m:c=37:=UInt8.toNat_inj.1 (by have: (37 :UInt8).toNat=37:=rfl;omega)
 subst m;refine aS ?_;by_cases A:i+2<s.length
 obtain⟨a,B⟩ : ∃a,s[i+1]? = some a:=⟨s[i+1]'aa,bG _⟩;obtain⟨b,C⟩ : ∃b,s[i+2]? = some b:=⟨s[i+2]'aa,bG _⟩;have J:s.getD (i+1) 0=a:=by simp[List.getD,B]
 have K:s.getD (i+2) 0=b:=by simp[List.getD,C]
 have D:s.drop (i+1)=a::b::s.drop (i+3):=by rw[lG aa,(cY.1 B).2,lG aa,(cY.1 C).2]
 refine ah ?_;refine ao rfl Fj rfl (λw' _=>II w' s i p aa) ?_;rw[tz,ay A,J,K];refine bB ?_;refine b6 rfl (λh=>?_) (λh=>?_);simp only[d_,e2] at h
 rw[D,IG h.1 h.2] at d
 rw[Uy h.1 h.2];refine ax ?_;intro Zb Zc Zd;refine gv fk rfl rfl rfl bi (λ_=>by exact cA) rfl (im rfl) (by simp only[maxLen];omega) aa (λL Ze=>?_);refine eM ?_;refine bg (i+3,L,g++[nW a b],r) ⟨by dsimp only;omega,by simp;omega,by rw[d];simp⟩ bm (Sub.cons bb (Sub.cons bb (Sub.cons bb (Sub.cons (by simp[look];omega) Sub.nil)))) (λw' f=>?_);dsimp only;rw[j,b8];exact f;simp only[ud,e1] at h
 have n: ∀x y u,s.drop (i+1)=x::y::u→ ¬(0≤cP x∧0≤cP y):=λx y u e=>by
  rw[D] at e
  simp only[rQ] at e
  obtain⟨rfl,rfl,_⟩:=e;omega
 rw[Cd n] at d
 refine al ?_;intro M N O;refine gv fk rfl rfl rfl bi (λ_=>by exact cA) rfl (im rfl) (by simp only[maxLen];omega) aa (λo P=>?_);refine bI ?_;refine bg (i+1,o,g++[37],false) ⟨by dsimp only;omega,by simp;omega,by rw[d];simp⟩ bm (cw rfl rfl rfl rfl) (λw' f=>?_);dsimp only;rw[j,b8];exact f;have n: ∀x y u,s.drop (i+1)=x::y::u→ ¬(0≤cP x∧0≤cP y):=λx y u e=>by
  have:=aV List.length e
  simp at this
  omega
 rw[Cd n] at d
 refine ah ?_;refine ao rfl Fj rfl (λw' _=>II w' s i p aa) ?_;rw[tz,ag A];refine eM ?_;intro M N O;refine gv fk rfl rfl rfl bi (λ_=>by exact cA) rfl (im rfl) (by simp only[maxLen];omega) aa (λo P=>?_);refine bI ?_;refine bg (i+1,o,g++[37],false) ⟨by dsimp only;omega,by simp;omega,by rw[d];simp⟩ bm (cw rfl rfl rfl rfl) (λw' f=>?_);dsimp only;rw[j,b8];exact f;have Q:i=s.length:=by omega
 refine hE (v:=v) Has.head (λR S T Zf Zg Zh Zi=>?_);subst T;refine aL ?_;refine jd (s:=g) (F:=λk=>(Value.slice R g.length S).ownBlock=some k) underlying59 underlying5 underlying9 rfl rfl (λw' f=>?_) ?_;obtain⟨Zj,Zk,U,V⟩:=Rd.ga (E:=cD) (f.has Has.head) rfl;cases U
 exact V;refine aD ?_;intro Zl W;subst Q;rw[List.drop_length] at d
 refine⟨?_,W.ext⟩;rw[d];simp[ff]
theorem Uz (w:World) (s:List UInt8) (a:s.length≤1000000):
 Calls prog 357 [.string (bs s)].toArray w (λe w'=>e= .returned (.string (bs (ff s).1))∧Ext [] w w'):=by
 refine aW func357 ntmps357 ?_;refine aL ?_;refine ao rfl OY rfl (λw' _=>Au w' s a) ?_;refine cI ?_;intro c b;exact⟨rfl,b.ext⟩
def pe (s:List UInt8):Value:=match pd s with
 | some p=> .tuple #[.string (bs p.1),.string (bs p.2),.int .i64 0]
 | none=> .tuple #[.string (bs []),.string (bs []),.int .i64 4]
theorem UA (w:World) (s:List UInt8) (n:s.length≤1000000):
 Calls prog 273 [.string (bs s)].toArray w (λe w'=>e= .returned (pe s)∧Ext [] w w'):=by
 refine aW func273 ntmps273 ?_;refine b_ ?_;refine aX 10 rfl (λb=>?_) (λb=>?_);have j:=a1 b
 refine e4 ?_;intro c a;exact⟨by rw[pe,pd,ag aa],a.ext⟩;have j:=bc b
 have o: (s.take 7).length=7:=by rw[dv];omega
 refine ah ?_;refine pC 7 underlying9 rfl rfl rfl bb aa ?_;refine ar ?_;refine ao rfl Om rfl (λw' _=>Uw w' (s.take 7) aa) ?_;refine ar ?_;refine LB rfl rfl rfl ?_;refine ah ?_;refine aj (λd=>?_) (λd=>?_);refine aR ?_;intro c a;exact⟨by rw[pe,pd,ag (by rintro⟨_,h⟩;exact d (by simpa [yr] using h))],a.ext⟩;have g:ys (s.take 7)=yr:=by simpa [yr] using d
 refine ax ?_;refine pB 7 underlying9 rfl rfl rfl bb aa ?_;refine al ?_;refine je rfl On rfl (λw' _=>Uq w' (s.drop 7) 47) ?_;refine aR ?_;refine aj (λf=>?_) (λf=>?_);refine aR ?_;intro c a;exact⟨by rw[pe,pd,ay ⟨aa,g⟩,ay f],a.ext⟩;rcases qe (s.drop 7) 47 with ⟨_,h⟩ | ⟨pre,p,k,q,i⟩
 omega
 have r:pre.length≤(s.drop 7).length:=by rw[k];simp
 have t: (s.drop 7).length≤1000000:=by rw[fK];omega
 rw[i];refine ah ?_;refine bF [0,1,2,3,4,5] 1 [[(6,false,[7,8,9])]] ?_;refine aq ?_;refine aI rfl (λl m=>(pC pre.length underlying9 rfl rfl rfl bb aa aC)) ?_;refine aq ?_;refine aI rfl (λl m=>(pB pre.length underlying9 rfl rfl rfl bb aa aC)) ?_;refine aq ?_;refine ao rfl Oo rfl (λw' _=>Uz w' ((s.drop 7).drop pre.length) (by rw[fK];omega)) ?_;refine aJ ?_;intro c a;refine⟨?_,a.ext⟩;rw[pe,pd,ay ⟨aa,g⟩,ag f,i];rfl
def tC (s t:List UInt8):Bool:=decide (t.length≤s.length) && decide (s.take t.length=t)
theorem UB:ad prog 423:=ad.of func423 ab ab
theorem UC (w:World) (s t:List UInt8):
 Calls prog 423 [.string (bs s),.string (bs t)].toArray w (λe w'=>e= .returned (.bool (tC s t))∧w'=w):=by
 refine calls (n:=18) func423 rfl ntmps423 rfl ?_;refine bI ?_;refine aX 10 rfl (λa=>?_) (λa=>?_);have c:=a1 a
 refine aD ?_;refine pC t.length underlying9 rfl rfl rfl bb aa ?_;refine aR ?_;intro d b;exact⟨by rw[tC,b5 (by omega:t.length≤s.length),Bool.true_and],b⟩;have c:=bc a
 refine bB ?_;intro d b;exact⟨by rw[tC,bO (by omega: ¬t.length≤s.length),Bool.false_and],b⟩
theorem IJ (w:World) (s t:List UInt8):
 Calls prog 416 [.string (bs s),.string (bs t)].toArray w (λe w'=>e= .returned (.bool (tC s t))∧w'=w):=by
 refine calls (n:=8) func416 rfl ntmps416 rfl ?_;refine aJ ?_;refine je rfl UB rfl (λw' _=>UC w' s t) ?_;refine ax ?_;intro b a;exact⟨rfl,a⟩
section
variable {P:Program} {n:Nat} {ops:Array Oper} {Q:cq} {rest:List Oper} {l:Fr} {H:World→Prop} {d:Nat} {ty:TypeId} {pos:String} {a6:Array Edge} {x:Operand}
theorem l_ {t:TypeId} {v:Value} (a:P.concrete t=true) (ak:Nat.blt d n=true) (b:ba l x=some v) (h:az P n ops Q rest ((d,.iface t v)::l) H):
 az P n ops Q (⟨some d,.makeInterface t x,ty,pos,a6,none⟩::rest) l H:=
 df _ ak (λf w c=>by
  have e:=run_makeInterface (P:=P) w t v a
  simp[execOp,c x _ b,e]) h
end
theorem ma:ad prog 481:=ad.of func481 ab ab
theorem mb (w:World) (c:UInt8):Calls prog 481 [.int .u8 (c.toNat:Int)].toArray w (λe w'=>e= .returned (.int .u8 ((c.toNat ||| 32 :Nat):Int))∧Ext [] w w'):=by
 have a:=UInt8.toNat_lt c
 have d:c.toNat ||| 32<2 ^ 8:=oi a aZ
 refine aW func481 ntmps481 ?_;refine aL ?_;refine mD (r:=((c.toNat ||| 32 :Nat):Int)) rfl rfl rfl (or_eq (m:=c.toNat) (n:=32) rfl rfl (by simp only[IntKind.bits];omega) aZ (np aa aa)) ?_;refine ax ?_;intro f b;exact⟨rfl,b.ext⟩
theorem IK: ∀c:UInt8,¬(48≤c.toNat∧c.toNat≤57)→((97≤(c.toNat ||| 32)∧(c.toNat ||| 32)≤122)∧(c.toNat ||| 32) - 87<16→cP c=(((c.toNat ||| 32) - 87 :Nat):Int))∧(¬(97≤(c.toNat ||| 32)∧(c.toNat ||| 32)≤122)∨16≤(c.toNat ||| 32) - 87→cP c= -1):=by
 refine Up ?_;decide+kernel
def vE (c:UInt8) (y:Nat):Prop:=y<16∧cP c=(y:Int)
theorem mc {c:UInt8} (a: ¬(48≤c.toNat∧c.toNat≤57)) (h: ¬(97≤(c.toNat ||| 32)∧(c.toNat ||| 32)≤122)∨16≤(c.toNat ||| 32) - 87):cP c= -1:=(IK c a).2 h
theorem IL {c:UInt8} (h:48≤c.toNat∧c.toNat≤57):vE c (c.toNat - 48):=by
 refine⟨aa,?_⟩;have a: (48 :UInt8).toNat=48:=rfl
 have b: (57 :UInt8).toNat=57:=rfl
 unfold cP lw;rw[ay (by rw[a,b,b5 h.1,b5 h.2];rfl)];omega
theorem yv {c:UInt8} (a: ¬(48≤c.toNat∧c.toNat≤57)) (b:97≤(c.toNat ||| 32)∧(c.toNat ||| 32)≤122) (h: (c.toNat ||| 32) - 87<16):vE c ((c.toNat ||| 32) - 87):=⟨h,(IK c a).1 ⟨b,h⟩⟩
theorem IM {b:World} {S:List Nat} {cs:List Chunk} {w:World} (h:af b S cs w) {g e:Nat} {L:List UInt8} (c:Has cs (jr g e (cD.all L))) {k:Nat} {a:UInt8} (d:L[k]? = some a):w.cell? ((⟨g,0,none⟩ :Addr).add (k*1))=some (.int .u8 (a.toNat:Int)):=by
 rw[Addr.add_lit,dA];exact af.IC h c (cD.lM (j:=0) d rfl)
def IN (a b:UInt8) (v:Value):Prop:=
 (∃y z:Nat,y<16∧z<16∧cP a=(y:Int)∧cP b=(z:Int)∧v= .tuple #[.int .u64 ((16*y+z:Nat):Int),.nilIface])∨
 ((cP a= -1∨cP b= -1)∧v= .tuple #[.int .u64 0,.iface 460 (.int .i64 2)])
def UD (a b:UInt8) (i u:Nat):Prop:=(i=0∧u=0)∨(i=1∧vE a u)∨(i=2∧ ∃y z,vE a y∧vE b z∧u=16*y+z)
theorem UE (w:World) (a b:UInt8):Calls prog 468 [.string (bs [a,b]),.int .i64 16,.int .i64 8].toArray w (nn (λv _=>IN a b v) w):=by
 have H:=UInt8.toNat_lt a
 have I:=UInt8.toNat_lt b
 refine aW func468 ntmps468 ?_;refine bI ?_;refine fD rfl ((bO av)) ?_;refine Pt ?_;refine uN ?_;refine dm (r:=8) rfl rfl underlying3 underlying250 rfl ?_;refine oC (r:=256) rfl rfl rfl aZ rfl ?_;refine gN (r:=255) rfl rfl rfl rfl ?_;refine et ?_;refine IE (s:=[a,b]) underlying9 underlying59 underlying5 rfl rfl (by show 2≤1000000;decide) (λce x J K L M=>?_);refine ax ?_;refine b1 (ι:=Nat × Nat) (λt=>[(1,.int .i64 16),(8,.bool false),(10,.int .u64 1152921504606846976),(11,.int .u64 255),(12,.bool false),(13,.int .u64 (t.2 :Int)),(99,.slice (some ⟨ce,0,none⟩) 2 x),(100,.int .i64 2),(101,.int .i64 (t.1 :Int))]) (λ_=>af w [] [jr ce 5 (cD.all [a,b])]) (λt=>UD a b t.1 t.2) (λt=>2 - t.1) ?_ ?_;exact λw' d=>⟨(0,0),.inl ⟨rfl,rfl⟩,(uM rfl rfl rfl rfl rfl rfl rfl rfl rfl),d⟩
 rintro⟨i,u⟩ D;dsimp only at D ⊢
 rcases D with ⟨rfl,rfl⟩ | ⟨rfl,p⟩ | ⟨rfl,y,z,E,F,rfl⟩
 have G:a.toNat ||| 32<256:=oi (n:=8) aa aZ
 refine al ?_;refine eA rfl ((b5 aa)) ?_;refine al ?_;refine bw (q:=0) fk rfl rfl rfl bb aa aa ?_;refine a7 zr rfl rfl (λw' d=>IM d Has.head (k:=0) (a:=a) rfl) ?_;refine bp ?_;refine ou ([(1,.int .i64 16),(8,.bool false),(10,.int .u64 1152921504606846976),(11,.int .u64 255),(12,.bool false),(13,.int .u64 ((0 :Nat):Int)),(99,.slice (some ⟨ce,0,none⟩) 2 x),(100,.int .i64 2),(101,.int .i64 ((0 :Nat):Int)),(15,.int .u8 (a.toNat:Int)),(106,.bool false)]) (af w [] [jr ce 5 (cD.all [a,b])]) ?_ ?_;refine aS ?_;refine aX 109 rfl (λg=>?_) (λg=>?_);have A:=a1 g
 refine ax ?_;exact gw (Sub.cons rfl (mE rfl rfl rfl rfl rfl rfl rfl rfl rfl rfl)) (λ_ h=>h);have A:=bc g
 refine aS ?_;exact gw (Sub.cons rfl (mE rfl rfl rfl rfl rfl rfl rfl rfl rfl rfl)) (λ_ h=>h);refine aD ?_;refine aX 115 rfl (λj=>?_) (λj=>?_);have B:=a1 j
 refine aL ?_;refine aj (λC=>?_) (λC=>?_);refine aq ?_;refine gN (r:=((a.toNat - 48 :Nat):Int)) rfl rfl rfl (by rw[IntKind.wrap_u8];omega) ?_;refine aJ ?_;refine dm (r:=16) rfl rfl underlying3 underlying5 rfl ?_;refine ah ?_;refine fD rfl ((bO aa)) ?_;refine aR ?_;refine fD rfl ((bO aa)) ?_;refine al ?_;refine dm (r:=16) rfl rfl underlying3 underlying32 rfl ?_;refine k1 (r:=(((0 :Nat)*16 :Nat):Int)) rfl rfl rfl (by rw[IntKind.wrap_u64];omega) ?_;refine aD ?_;refine dm (r:=((a.toNat - 48 :Nat):Int)) rfl rfl underlying5 underlying32 (by rw[IntKind.wrap_u64];omega) ?_;refine gu (r:=(((0 :Nat)*16+(a.toNat - 48):Nat):Int)) rfl rfl rfl (by rw[IntKind.wrap_u64];omega) ?_;refine aR ?_;refine bY rfl rfl (bO aa) ?_;refine ar ?_;refine bY rfl rfl (bO aa) ?_;refine ar ?_;refine bY rfl rfl (bO aa) ?_;refine ar ?_;refine ig rfl rfl (bO aa) rfl ?_;refine aq ?_;refine fD rfl ((bO aa)) ?_;refine bB ?_;exact bg (1,0*16+(a.toNat - 48)) (.inr (.inl ⟨rfl,by rw[qL,dA];exact (IL aa)⟩)) bm bR (λw' d=>d);refine ah ?_;refine ao rfl ma rfl (λw' _=>mb w' a) ?_;refine aq ?_;refine aX 125 rfl (λe=>?_) (λe=>?_);have l:=a1 e
 refine ah ?_;refine ao rfl ma rfl (λw' _=>mb w' a) ?_;refine al ?_;refine aj (λm=>?_) (λm=>?_);refine aq ?_;refine ao rfl ma rfl (λw' _=>mb w' a) ?_;refine gN (r:=(((a.toNat ||| 32) - 97 :Nat):Int)) rfl rfl rfl (by rw[IntKind.wrap_u8];omega) ?_;refine gu (r:=(((a.toNat ||| 32) - 87 :Nat):Int)) rfl rfl rfl (by rw[IntKind.wrap_u8];omega) ?_;refine aJ ?_;refine dm (r:=16) rfl rfl underlying3 underlying5 rfl ?_;refine ah ?_;refine aj (λo=>?_) (λo=>?_);refine aq ?_;refine l_ ab rfl rfl ?_;refine bB ?_;intro f c;exact⟨_,rfl,c.ext,.inr ⟨.inl (mc aa (.inr aa)),rfl⟩⟩;refine aR ?_;refine fD rfl ((bO aa)) ?_;refine al ?_;refine dm (r:=16) rfl rfl underlying3 underlying32 rfl ?_;refine k1 (r:=(((0 :Nat)*16 :Nat):Int)) rfl rfl rfl (by rw[IntKind.wrap_u64];omega) ?_;refine aD ?_;refine dm (r:=(((a.toNat ||| 32) - 87 :Nat):Int)) rfl rfl underlying5 underlying32 (by rw[IntKind.wrap_u64];omega) ?_;refine gu (r:=(((0 :Nat)*16+((a.toNat ||| 32) - 87):Nat):Int)) rfl rfl rfl (by rw[IntKind.wrap_u64];omega) ?_;refine aR ?_;refine bY rfl rfl (bO aa) ?_;refine ar ?_;refine bY rfl rfl (bO aa) ?_;refine ar ?_;refine bY rfl rfl (bO aa) ?_;refine ar ?_;refine ig rfl rfl (bO aa) rfl ?_;refine aq ?_;refine fD rfl ((bO aa)) ?_;refine bB ?_;exact bg (1,0*16+((a.toNat ||| 32) - 87)) (.inr (.inl ⟨rfl,by rw[qL,dA];exact (yv aa aa aa)⟩)) bm bR (λw' d=>d);refine aq ?_;refine l_ ab rfl rfl ?_;refine bI ?_;intro f c;exact⟨_,rfl,c.ext,.inr ⟨.inl (mc aa (.inl aa)),rfl⟩⟩;have l:=bc e
 refine aR ?_;refine l_ ab rfl rfl ?_;refine bI ?_;intro f c;exact⟨_,rfl,c.ext,.inr ⟨.inl (mc aa (.inl aa)),rfl⟩⟩;have B:=bc j
 refine aR ?_;refine ao rfl ma rfl (λw' _=>mb w' a) ?_;refine aq ?_;refine aX 125 rfl (λe=>?_) (λe=>?_);have l:=a1 e
 refine ah ?_;refine ao rfl ma rfl (λw' _=>mb w' a) ?_;refine al ?_;refine aj (λm=>?_) (λm=>?_);refine aq ?_;refine ao rfl ma rfl (λw' _=>mb w' a) ?_;refine gN (r:=(((a.toNat ||| 32) - 97 :Nat):Int)) rfl rfl rfl (by rw[IntKind.wrap_u8];omega) ?_;refine gu (r:=(((a.toNat ||| 32) - 87 :Nat):Int)) rfl rfl rfl (by rw[IntKind.wrap_u8];omega) ?_;refine aJ ?_;refine dm (r:=16) rfl rfl underlying3 underlying5 rfl ?_;refine ah ?_;refine aj (λo=>?_) (λo=>?_);refine aq ?_;refine l_ ab rfl rfl ?_;refine bB ?_;intro f c;exact⟨_,rfl,c.ext,.inr ⟨.inl (mc aa (.inr aa)),rfl⟩⟩;refine aR ?_;refine fD rfl ((bO aa)) ?_;refine al ?_;refine dm (r:=16) rfl rfl underlying3 underlying32 rfl ?_;refine k1 (r:=(((0 :Nat)*16 :Nat):Int)) rfl rfl rfl (by rw[IntKind.wrap_u64];omega) ?_;refine aD ?_;refine dm (r:=(((a.toNat ||| 32) - 87 :Nat):Int)) rfl rfl underlying5 underlying32 (by rw[IntKind.wrap_u64];omega) ?_;refine gu (r:=(((0 :Nat)*16+((a.toNat ||| 32) - 87):Nat):Int)) rfl rfl rfl (by rw[IntKind.wrap_u64];omega) ?_;refine aR ?_;refine bY rfl rfl (bO aa) ?_;refine ar ?_;refine bY rfl rfl (bO aa) ?_;refine ar ?_;refine bY rfl rfl (bO aa) ?_;refine ar ?_;refine ig rfl rfl (bO aa) rfl ?_;refine aq ?_;refine fD rfl ((bO aa)) ?_;refine bB ?_;exact bg (1,0*16+((a.toNat ||| 32) - 87)) (.inr (.inl ⟨rfl,by rw[qL,dA];exact (yv aa aa aa)⟩)) bm bR (λw' d=>d);refine aq ?_;refine l_ ab rfl rfl ?_;refine bI ?_;intro f c;exact⟨_,rfl,c.ext,.inr ⟨.inl (mc aa (.inl aa)),rfl⟩⟩;have l:=bc e
 refine aR ?_;refine l_ ab rfl rfl ?_;refine bI ?_;intro f c;exact⟨_,rfl,c.ext,.inr ⟨.inl (mc aa (.inl aa)),rfl⟩⟩;have N:=p.1
 have G:b.toNat ||| 32<256:=oi (n:=8) aa aZ
 refine al ?_;refine eA rfl ((b5 aa)) ?_;refine al ?_;refine bw (q:=1) fk rfl rfl rfl bb aa aa ?_;refine a7 zr rfl rfl (λw' d=>IM d Has.head (k:=1) (a:=b) rfl) ?_;refine bp ?_;refine ou ([(1,.int .i64 16),(8,.bool false),(10,.int .u64 1152921504606846976),(11,.int .u64 255),(12,.bool false),(13,.int .u64 ((u:Nat):Int)),(99,.slice (some ⟨ce,0,none⟩) 2 x),(100,.int .i64 2),(101,.int .i64 ((1 :Nat):Int)),(15,.int .u8 (b.toNat:Int)),(106,.bool false)]) (af w [] [jr ce 5 (cD.all [a,b])]) ?_ ?_;refine aS ?_;refine aX 109 rfl (λg=>?_) (λg=>?_);have A:=a1 g
 refine ax ?_;exact gw (Sub.cons rfl (mE rfl rfl rfl rfl rfl rfl rfl rfl rfl rfl)) (λ_ h=>h);have A:=bc g
 refine aS ?_;exact gw (Sub.cons rfl (mE rfl rfl rfl rfl rfl rfl rfl rfl rfl rfl)) (λ_ h=>h);refine aD ?_;refine aX 115 rfl (λj=>?_) (λj=>?_);have B:=a1 j
 refine aL ?_;refine aj (λC=>?_) (λC=>?_);refine aq ?_;refine gN (r:=((b.toNat - 48 :Nat):Int)) rfl rfl rfl (by rw[IntKind.wrap_u8];omega) ?_;refine aJ ?_;refine dm (r:=16) rfl rfl underlying3 underlying5 rfl ?_;refine ah ?_;refine fD rfl ((bO aa)) ?_;refine aR ?_;refine fD rfl ((bO aa)) ?_;refine al ?_;refine dm (r:=16) rfl rfl underlying3 underlying32 rfl ?_;refine k1 (r:=((u*16 :Nat):Int)) rfl rfl rfl (by rw[IntKind.wrap_u64];omega) ?_;refine aD ?_;refine dm (r:=((b.toNat - 48 :Nat):Int)) rfl rfl underlying5 underlying32 (by rw[IntKind.wrap_u64];omega) ?_;refine gu (r:=((u*16+(b.toNat - 48):Nat):Int)) rfl rfl rfl (by rw[IntKind.wrap_u64];omega) ?_;refine aR ?_;refine bY rfl rfl (bO aa) ?_;refine ar ?_;refine bY rfl rfl (bO aa) ?_;refine ar ?_;refine bY rfl rfl (bO aa) ?_;refine ar ?_;refine ig rfl rfl (bO aa) rfl ?_;refine aq ?_;refine fD rfl ((bO aa)) ?_;refine bB ?_;exact bg (2,u*16+(b.toNat - 48)) (.inr (.inr ⟨rfl,_,_,p,(IL aa),by dsimp only;omega⟩)) bm (uM rfl rfl rfl rfl rfl rfl rfl rfl rfl) (λw' d=>d);refine ah ?_;refine ao rfl ma rfl (λw' _=>mb w' b) ?_;refine aq ?_;refine aX 125 rfl (λe=>?_) (λe=>?_);have l:=a1 e
 refine ah ?_;refine ao rfl ma rfl (λw' _=>mb w' b) ?_;refine al ?_;refine aj (λm=>?_) (λm=>?_);refine aq ?_;refine ao rfl ma rfl (λw' _=>mb w' b) ?_;refine gN (r:=(((b.toNat ||| 32) - 97 :Nat):Int)) rfl rfl rfl (by rw[IntKind.wrap_u8];omega) ?_;refine gu (r:=(((b.toNat ||| 32) - 87 :Nat):Int)) rfl rfl rfl (by rw[IntKind.wrap_u8];omega) ?_;refine aJ ?_;refine dm (r:=16) rfl rfl underlying3 underlying5 rfl ?_;refine ah ?_;refine aj (λo=>?_) (λo=>?_);refine aq ?_;refine l_ ab rfl rfl ?_;refine bB ?_;intro f c;exact⟨_,rfl,c.ext,.inr ⟨.inr (mc aa (.inr aa)),rfl⟩⟩;refine aR ?_;refine fD rfl ((bO aa)) ?_;refine al ?_;refine dm (r:=16) rfl rfl underlying3 underlying32 rfl ?_;refine k1 (r:=((u*16 :Nat):Int)) rfl rfl rfl (by rw[IntKind.wrap_u64];omega) ?_;refine aD ?_;refine dm (r:=(((b.toNat ||| 32) - 87 :Nat):Int)) rfl rfl underlying5 underlying32 (by rw[IntKind.wrap_u64];omega) ?_;refine gu (r:=((u*16+((b.toNat ||| 32) - 87):Nat):Int)) rfl rfl rfl (by rw[IntKind.wrap_u64];omega) ?_;refine aR ?_;refine bY rfl rfl (bO aa) ?_;refine ar ?_;refine bY rfl rfl (bO aa) ?_;refine ar ?_;refine bY rfl rfl (bO aa) ?_;refine ar ?_;refine ig rfl rfl (bO aa) rfl ?_;refine aq ?_;refine fD rfl ((bO aa)) ?_;refine bB ?_;exact bg (2,u*16+((b.toNat ||| 32) - 87)) (.inr (.inr ⟨rfl,_,_,p,(yv aa aa aa),by dsimp only;omega⟩)) bm (uM rfl rfl rfl rfl rfl rfl rfl rfl rfl) (λw' d=>d);refine aq ?_;refine l_ ab rfl rfl ?_;refine bI ?_;intro f c;exact⟨_,rfl,c.ext,.inr ⟨.inr (mc aa (.inl aa)),rfl⟩⟩;have l:=bc e
 refine aR ?_;refine l_ ab rfl rfl ?_;refine bI ?_;intro f c;exact⟨_,rfl,c.ext,.inr ⟨.inr (mc aa (.inl aa)),rfl⟩⟩;have B:=bc j
 refine aR ?_;refine ao rfl ma rfl (λw' _=>mb w' b) ?_;refine aq ?_;refine aX 125 rfl (λe=>?_) (λe=>?_);have l:=a1 e
 refine ah ?_;refine ao rfl ma rfl (λw' _=>mb w' b) ?_;refine al ?_;refine aj (λm=>?_) (λm=>?_);refine aq ?_;refine ao rfl ma rfl (λw' _=>mb w' b) ?_;refine gN (r:=(((b.toNat ||| 32) - 97 :Nat):Int)) rfl rfl rfl (by rw[IntKind.wrap_u8];omega) ?_;refine gu (r:=(((b.toNat ||| 32) - 87 :Nat):Int)) rfl rfl rfl (by rw[IntKind.wrap_u8];omega) ?_;refine aJ ?_;refine dm (r:=16) rfl rfl underlying3 underlying5 rfl ?_;refine ah ?_;refine aj (λo=>?_) (λo=>?_);refine aq ?_;refine l_ ab rfl rfl ?_;refine bB ?_;intro f c;exact⟨_,rfl,c.ext,.inr ⟨.inr (mc aa (.inr aa)),rfl⟩⟩;refine aR ?_;refine fD rfl ((bO aa)) ?_;refine al ?_;refine dm (r:=16) rfl rfl underlying3 underlying32 rfl ?_;refine k1 (r:=((u*16 :Nat):Int)) rfl rfl rfl (by rw[IntKind.wrap_u64];omega) ?_;refine aD ?_;refine dm (r:=(((b.toNat ||| 32) - 87 :Nat):Int)) rfl rfl underlying5 underlying32 (by rw[IntKind.wrap_u64];omega) ?_;refine gu (r:=((u*16+((b.toNat ||| 32) - 87):Nat):Int)) rfl rfl rfl (by rw[IntKind.wrap_u64];omega) ?_;refine aR ?_;refine bY rfl rfl (bO aa) ?_;refine ar ?_;refine bY rfl rfl (bO aa) ?_;refine ar ?_;refine bY rfl rfl (bO aa) ?_;refine ar ?_;refine ig rfl rfl (bO aa) rfl ?_;refine aq ?_;refine fD rfl ((bO aa)) ?_;refine bB ?_;exact bg (2,u*16+((b.toNat ||| 32) - 87)) (.inr (.inr ⟨rfl,_,_,p,(yv aa aa aa),by dsimp only;omega⟩)) bm (uM rfl rfl rfl rfl rfl rfl rfl rfl rfl) (λw' d=>d);refine aq ?_;refine l_ ab rfl rfl ?_;refine bI ?_;intro f c;exact⟨_,rfl,c.ext,.inr ⟨.inr (mc aa (.inl aa)),rfl⟩⟩;have l:=bc e
 refine aR ?_;refine l_ ab rfl rfl ?_;refine bI ?_;intro f c;exact⟨_,rfl,c.ext,.inr ⟨.inr (mc aa (.inl aa)),rfl⟩⟩;refine al ?_;refine fD rfl ((bO aa)) ?_;refine xf ?_;intro f c;exact⟨_,rfl,c.ext,.inl ⟨y,z,E.1,F.1,E.2,F.2,rfl⟩⟩
section
variable {P:Program} {n:Nat} {ops:Array Oper} {Q:cq} {rest:List Oper} {l:Fr} {H:World→Prop} {d:Nat} {ty:TypeId} {pos:String} {a6:Array Edge} {x:Operand} {cv dD:TypeId}
theorem UF (b:P.isIface cv=true) (ak:Nat.blt d n=true) (c:ba l x=some .nilIface)
 (h:az P n ops Q rest ((d,.bool false)::l) H):az P n ops Q (⟨some d,.binOp .neq cv x (.const .nilIface) dD,ty,pos,a6,none⟩::rest) l H:=
 df _ ak (λe w a=>by
  have f:e (.const .nilIface)= .nilIface:=a _ _ rfl
  have g:=run_neq_nil_nil_at (P:=P) w cv b
  simp[execOp,a x _ c,f,eqGuard_nil_constR,g]) h
theorem UG {t:TypeId} {p:Value} (b:P.isIface cv=true) (ak:Nat.blt d n=true) (c:ba l x=some (.iface t p))
 (h:az P n ops Q rest ((d,.bool true)::l) H):az P n ops Q (⟨some d,.binOp .neq cv x (.const .nilIface) dD,ty,pos,a6,none⟩::rest) l H:=
 df _ ak (λe w a=>by
  have f:e (.const .nilIface)= .nilIface:=a _ _ rfl
  have g:=run_neq_iface_nil (P:=P) w cv b t p
  have i:eqGuard .neq cv x (.const .nilIface) (.iface t p) .nilIface=pure ():=by rfl
  simp[execOp,a x _ c,f,i,g]) h
end
def UH (v:Value):Prop:= ∃(x:Nat) (t:TypeId) (p:Value),v= .tuple #[.int .u64 (x:Int),.iface t p]
def UI:Shelf.Ren:=⟨λ| 17=>467 | 21=>477 | 22=>478 | 23=>479 | 24=>480 | 25=>484 | 26=>485 | 27=>343 | 28=>403 | 29=>435 | 30=>454 | 31=>455 | 32=>456 | 33=>457 | 34=>470 | 35=>215 | 36=>471 | 37=>472 | 38=>473 | 39=>483 | 40=>393 | n=>n,λ| 0=>0 | 2=>2 | 3=>3 | 4=>4 | 5=>5 | 9=>9 | 20=>20 | 22=>32 | 24=>176 | 34=>460 | 36=>250 | 37=>59 | 39=>463 | 44=>471 | 47=>229 | 48=>474 | 50=>476 | 52=>447 | 55=>449 | 59=>456 | 60=>76 | 61=>457 | 65=>473 | 66=>436 | 67=>49 | n=>n,λ| 0=>5 | 1=>6 | 2=>2 | 3=>7 | 4=>0 | n=>n⟩
theorem UJ:LaysPu.n17 prog UI where
 mixed:=by kernel_rfl
 f17:=func467.trans (aV some ab)
 f21:=func477.trans (aV some ab)
 f22:=func478.trans (aV some ab)
 f23:=func479.trans (aV some ab)
 f24:=func480.trans (aV some ab)
 f25:=func484.trans (aV some ab)
 f26:=func485.trans (aV some ab)
 f27:=func343.trans (aV some ab)
 f28:=func403.trans (aV some ab)
 f29:=func435.trans (aV some ab)
 f30:=func454.trans (aV some ab)
 f31:=func455.trans (aV some ab)
 f32:=func456.trans (aV some ab)
 f33:=func457.trans (aV some ab)
 f34:=func470.trans (aV some ab)
 f35:=func215.trans (aV some ab)
 f36:=func471.trans (aV some ab)
 f37:=func472.trans (aV some ab)
 f38:=func473.trans (aV some ab)
 f39:=func483.trans (aV some ab)
 f40:=func393.trans (aV some ab)
 t0:=underlying0
 a0:=isAgg0
 z0:=sizeOf0
 v0:=zeroValue0
 i0:=by kernel_rfl
 t2:=underlying2
 a2:=isAgg2
 z2:=sizeOf2
 v2:=zeroValue2
 i2:=by kernel_rfl
 t3:=underlying3
 a3:=isAgg3
 z3:=sizeOf3
 v3:=zeroValue3
 i3:=by kernel_rfl
 t4:=underlying4
 a4:=isAgg4
 z4:=sizeOf4
 v4:=zeroValue4
 i4:=by kernel_rfl
 t5:=underlying5
 a5:=isAgg5
 z5:=sizeOf5
 v5:=zeroValue5
 i5:=by kernel_rfl
 t9:=underlying9
 a9:=isAgg9
 z9:=sizeOf9
 v9:=zeroValue9
 i9:=by kernel_rfl
 t20:=underlying20
 a20:=isAgg20
 z20:=sizeOf20
 v20:=zeroValue20
 i20:=by kernel_rfl
 t22:=underlying32
 a22:=isAgg32
 z22:=sizeOf32
 v22:=zeroValue32
 i22:=by kernel_rfl
 t24:=underlying176
 a24:=isAgg176
 z24:=sizeOf176
 v24:=zeroValue176
 i24:=by kernel_rfl
 t34:=underlying460
 a34:=isAgg460
 z34:=sizeOf460
 v34:=zeroValue460
 i34:=by kernel_rfl
 c34:=by kernel_rfl
 t36:=underlying250
 a36:=isAgg250
 z36:=sizeOf250
 v36:=zeroValue250
 i36:=by kernel_rfl
 t37:=underlying59
 a37:=isAgg59
 z37:=sizeOf59
 v37:=zeroValue59
 i37:=by kernel_rfl
 t39:=underlying463
 a39:=isAgg463
 z39:=sizeOf463
 v39:=zeroValue463
 i39:=by kernel_rfl
 t44:=underlying471
 a44:=isAgg471
 z44:=sizeOf471
 v44:=zeroValue471
 i44:=by kernel_rfl
 t47:=underlying229
 a47:=isAgg229
 z47:=sizeOf229
 v47:=zeroValue229
 i47:=by kernel_rfl
 t48:=underlying474
 a48:=isAgg474
 z48:=sizeOf474
 v48:=zeroValue474
 i48:=by kernel_rfl
 t50:=underlying476
 a50:=isAgg476
 z50:=sizeOf476
 v50:=zeroValue476
 i50:=by kernel_rfl
 t52:=underlying447
 a52:=isAgg447
 z52:=sizeOf447
 v52:=zeroValue447
 i52:=by kernel_rfl
 t55:=underlying449
 a55:=isAgg449
 z55:=sizeOf449
 v55:=zeroValue449
 i55:=by kernel_rfl
 t59:=underlying456
 a59:=isAgg456
 z59:=sizeOf456
 v59:=zeroValue456
 i59:=by kernel_rfl
 t60:=underlying76
 a60:=isAgg76
 z60:=sizeOf76
 v60:=zeroValue76
 i60:=by kernel_rfl
 t61:=underlying457
 a61:=isAgg457
 z61:=sizeOf457
 t65:=underlying473
 a65:=isAgg473
 z65:=sizeOf473
 v65:=zeroValue473
 i65:=by kernel_rfl
 t66:=underlying436
 a66:=isAgg436
 z66:=sizeOf436
 v66:=zeroValue436
 i66:=by kernel_rfl
 t67:=underlying49
 a67:=isAgg49
 z67:=sizeOf49
 v67:=zeroValue49
 i67:=by kernel_rfl
 g0:=by kernel_rfl
 m0:=by kernel_rfl
 g1:=by kernel_rfl
 m1:=by kernel_rfl
 g2:=by kernel_rfl
 m2:=by kernel_rfl
 g3:=by kernel_rfl
 m3:=by kernel_rfl
 g4:=by kernel_rfl
 m4:=by kernel_rfl
theorem UK:ad prog 467:=ad.of func467 ab ab
theorem UL:ad prog 468:=ad.of func468 ab ab
def IO (v:Value):Prop:= ∃t p,v= .iface t p
theorem UM (w:World) (a:pc w) (fn s:List UInt8) (x y:Int) (d:s.length≤1000000):
 Calls prog 467 [.string (bs fn),.string (bs s),.int .i64 x,.int .i64 y,.iface 460 (.int .i64 2)].toArray w (nn (λv _=>IO v) w):=by
 obtain⟨⟨t,p,b⟩,_⟩:=a;refine (AnyPu.strconv_toError_syntax UJ (bs fn) (bs s) x y _ w (by rw[hH];omega) b (.inr ⟨t,p,rfl⟩)).mono ?_;rintro e w' ⟨N,rfl,_,_,c⟩;exact⟨_,rfl,Ext.r8 c,_,_,rfl⟩
def IP (a b:UInt8) (v:Value):Prop:=
 (∃y z:Nat,y<16∧z<16∧cP a=(y:Int)∧cP b=(z:Int)∧v= .tuple #[.int .u64 ((16*y+z:Nat):Int),.nilIface])∨
 ((cP a= -1∨cP b= -1)∧UH v)
theorem UN (w:World) (f:pc w) (a b:UInt8):Calls prog 449 [.string (bs [a,b]),.int .i64 16,.int .i64 8].toArray w (nn (λv _=>IP a b v) w):=by
 refine aW func449 ntmps449 ?_;refine bp ?_;refine mC (R:=λ_ v _=>IN a b v) rfl UL rfl (λw' _=>UE w' a b) (λA g v h i B C c=>?_);have d:Ext [] w g:=h.ext.dZ i
 rcases c with ⟨y,z,j,k,l,m,rfl⟩ | ⟨n,rfl⟩
 refine bp ?_;refine UF ab rfl rfl ?_;refine b_ ?_;intro o e;exact⟨_,rfl,d.dZ e.ext,.inl ⟨y,z,j,k,l,m,rfl⟩⟩;refine bp ?_;refine UG ab rfl rfl ?_;refine aR ?_;refine mC (R:=λ_ v _=>IO v) rfl UK rfl (λw' q=>UM w' (f.ext (d.dZ q.ext)) [80,97,114,115,101,85,105,110,116] [a,b] 16 8 (by show 2≤1000000;decide)) (λD r v s u E F c=>?_);obtain⟨t,p,rfl⟩:=c;have x:Ext [] w r:=(d.dZ s.ext).dZ u
 refine aD ?_;intro o e;exact⟨_,rfl,x.dZ e.ext,.inr ⟨n,_,_,_,rfl⟩⟩
structure lx where
 kind:Int
 code:Int
 has:Bool
 text:List UInt8
abbrev lx.cells (x:lx):List Value:=[.int .i64 x.kind,.int .i64 x.code,.bool x.has,.string (bs x.text)]
def me (k:Int):lx:=⟨k,0,false,[]⟩
def nX:lx:=me 0
def nY (k:Int) (s:List UInt8):lx:=⟨k,0,false,s.take 256⟩
def gG (s:List UInt8):List UInt8:=if s.head?=some 45 then s.drop 1 else s
def codeOk (s:List UInt8):Bool:=decide (1≤(gG s).length) && decide ((gG s).length≤9) && (gG s).all pb
def codeF (s:List UInt8):Int × Bool:=if codeOk s=true then (if s.head?=some 45 then -(vB (gG s):Int) else (vB (gG s):Int),true) else (0,false)
def iU (s:List UInt8):Nat × UInt8:=
 if s.take 2=[92,92] then (2,92) else
 if s.take 2=[92,120]∧4≤s.length∧0≤cP (s.getD 2 0)∧0≤cP (s.getD 3 0) then (4,nW (s.getD 2 0) (s.getD 3 0)) else (1,s.headD 0)
theorem IQ (s:List UInt8):1≤(iU s).1:=by
 unfold iU;split
 exact Nat.le_succ 1;split
 exact (by decide: (1 :Nat)≤4);exact ch 1
theorem UO {s:List UInt8} (h:s≠[]): (iU s).1≤s.length:=by
 have a:=ug.2 h
 unfold iU;split
 rename_i b;have:=aV List.length b
 rw[dv] at this
 simp at this
 omega
 split
 rename_i c;exact c.2.1
 exact a
def hY (s:List UInt8):List UInt8:=if h:s=[] then [] else (iU s).2::hY (s.drop (iU s).1)
termination_by s.length
decreasing_by
 have a:=ug.2 h
 have:=IQ s
 rw[fK];omega
theorem IR:hY []=[]:=by rw[hY,dif_pos rfl]
theorem IS {s:List UInt8} (h:s≠[]):hY s=(iU s).2::hY (s.drop (iU s).1):=by rw[hY,dif_neg h]
theorem Cf: ∀(m:Nat) (s:List UInt8),s.length≤m→(hY s).length≤s.length
 | m,s,a=>by
  by_cases h:s=[]
  rw[h,IR];exact ch _
  have b:=ug.2 h
  have c:=IQ s
  cases m with
  | zero=>omega
  | succ m=>
   have:=Cf m (s.drop (iU s).1) (by rw[fK];omega)
   rw[fK] at this
   rw[IS h,eK];omega
def jM (s:List UInt8):List UInt8:=(fH 59 s).getD 0 []
def Cg (s:List UInt8):List UInt8:=(fH 59 s).getD 1 []
def Ch (s:List UInt8):List UInt8:=(fH 59 s).getD 2 []
def jq (s:List UInt8):Bool:=decide (3≤(fH 59 s).length)
def jN (s:List UInt8):List UInt8:=if 59∈s then (s.dropWhile (· ≠59)).drop 1 else []
def tD:List UInt8:=[67,119,100,61]
def ry:List UInt8:=[67,117,114,114,101,110,116,68,105,114,61]
def yw:List UInt8:=[83,101,116,77,97,114,107]
def kf (c:Bool) (a b:List UInt8) (has:Bool):lx:=
 if a=[65] then me 1 else if a=[66] then me 2 else if a=[67] then me 3 else
 if a=[68] then (if has=true then ⟨4,(codeF b).1,(codeF b).2,[]⟩ else me 4) else
 if a=[69] then (if c=true∧has=true then nY 5 (hY b) else nX) else
 if a=[80] then (if c=true∧b.take 4=tD then nY 6 (hY (b.drop 4)) else nX) else nX
def tE (rest:List UInt8):lx:=match pd rest with
 | some p=>nY 6 p.2
 | none=>nX
def oV (rest:List UInt8):lx:=if rest=yw then me 7 else if rest.take 11=ry then nY 6 (rest.drop 11) else nX
def ly (s:List UInt8):lx:=
 if jM s=[49,51,51]∨jM s=[54,51,51] then kf (decide (jM s=[54,51,51])) (Cg s) (Ch s) (jq s) else
 if jM s=[55] then tE (jN s) else
 if jM s=[49,51,51,55] then oV (jN s) else
 if (jM s=[48]∨jM s=[50])∧59∈s then nY 8 (jN s) else nX
theorem UP (s:List UInt8): (ly s).text.length≤256:=by
 have e: ∀k,(me k).text.length≤256:=λk=>bP _
 have c: ∀k t,(nY k t).text.length≤256:=λk t=>by
  show (t.take 256).length≤256
  rw[dv];omega
 have d:nX.text.length≤256:=bP _
 have g: ∀f a b h,(kf f a b h).text.length≤256:=λf a b h=>by
  unfold kf;repeat' split
  all_goals first | exact e _ | exact c _ _ | exact d
 have i: ∀r,(tE r).text.length≤256:=λr=>by
  unfold tE;split
  ·exact c _ _
  ·exact d
 have j: ∀r,(oV r).text.length≤256:=λr=>by
  unfold oV;repeat' split
  all_goals first | exact e _ | exact c _ _
 unfold ly;repeat' split
 all_goals first | exact g _ _ _ _ | exact i _ | exact j _ | exact c _ _ | exact d
theorem UQ {s:List UInt8} (h:codeOk s=true):Lib.atoiAll s= .ok (codeF s).1:=by
 have j:=h
 unfold codeOk at h
 rw[d_,d_,e2,e2,iY] at h
 obtain⟨⟨b,k⟩,ak⟩:=h;have m: ∀(l:List UInt8),(∀c∈l,pb c=true)→ ∀a,l.foldl ke a+1≤(a+1)*10 ^ l.length:=by
  intro l;induction l with
  | nil=>intro _ a;simp
  | cons c l n=>
   intro i a;have g:=a1 (i c av)
   have:=n (λx o=>i x (by simp[o])) (ke a c)
   rw[rS,eK,Nat.pow_succ];refine fs this ?_;have:ke a c+1≤(a+1)*10:=by unfold ke;omega
   calc (ke a c+1)*10 ^ l.length≤((a+1)*10)*10 ^ l.length:=kZ _ this
    _=(a+1)*(10 ^ l.length*10):=by rw[Nat.mul_assoc,qI 10]
 have f:vB (gG s)≤999999999:=by
  have p:=m _ ak 0
  rw[←Cb] at p
  have q:10 ^ (gG s).length≤10 ^ 9:=qJ aZ k
  have r:10 ^ 9=1000000000:=by decide
  omega
 have ai:Lib.parseMag (gG s)= .ok (vB (gG s)):=by
  unfold Lib.parseMag;rw[ag (λe=>by rw[e] at b;simp at b),Iv _ _ ak (by rw[←Cb];omega),←Cb]
 unfold codeF;rw[ay j];unfold gG at ai f b ak ⊢
 cases s with
 | nil=>simp at b
 | cons c l=>
  by_cases d: (c::l).head?=some 45
  rw[ay d] at ai f b ak ⊢
  have g:c=45:=by simpa using d
  subst g;rw[List.drop_one,List.tail_cons] at ai f ⊢
  rw[Lib.atoiAll_minus,ai];simp only[Lib.signed];rw[ag aa,ay d];rw[ag d] at ai f b ak ⊢
  have g:=a1 (ak c av)
  rw[Lib.atoiAll_plain c l aa aa,ai];simp only[Lib.signless];rw[ag aa,ag d]
end
end Go.Proofs.YtoghoobfpcadbaaGreatDoor.Mq.Os
