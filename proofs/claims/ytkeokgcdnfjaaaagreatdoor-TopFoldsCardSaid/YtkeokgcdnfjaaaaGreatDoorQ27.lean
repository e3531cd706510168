/- part 27 of the proof -/
import Derived.Test.YtkeokgcdnfjaaaaGreatDoorQ26
import Derived.Shelf.Strings.Builder1
import Derived.Shelf.Pu.ToError
namespace Go.Proofs.YtkeokgcdnfjaaaaGreatDoor.Mq.Os
open Go Go.RowKit Go.Proofs Tryz
section
def ln (c lo hi:UInt8):Bool:=decide (lo.toNat≤c.toNat) && decide (c.toNat≤hi.toNat)
def cM (c:UInt8):Int:=if ln c 48 57 then (c.toNat:Int) - 48 else if ln c 97 102 then (c.toNat:Int) - 97+10 else if ln c 65 70 then (c.toNat:Int) - 65+10 else -1
def nP (a b:UInt8):UInt8:=UInt8.ofNat (16*(cM a).toNat+(cM b).toNat)
def fd:List UInt8→List UInt8 × Bool
 | []=>([],true)
 | [c]=>([c],decide (c≠37))
 | [c,d]=>(c::(fd [d]).1,decide (c≠37) && (fd [d]).2)
 | c::a::b::t=>
  if c≠37 then (c::(fd (a::b::t)).1,(fd (a::b::t)).2)
  else if 0≤cM a∧0≤cM b then (nP a b::(fd t).1,(fd t).2)
  else (37::(fd (a::b::t)).1,false)
def qg (c:UInt8):UInt8:=if ln c 65 90 then UInt8.ofNat (c.toNat+32) else c
theorem yd (c:UInt8): -1≤cM c∧cM c≤15:=by
 unfold cM ln;have:=c.toNat_lt
 simp only[dY,e3];have a: (48 :UInt8).toNat=48:=rfl
 have b: (57 :UInt8).toNat=57:=rfl
 have d: (97 :UInt8).toNat=97:=rfl
 have e: (102 :UInt8).toNat=102:=rfl
 have f: (65 :UInt8).toNat=65:=rfl
 have g: (70 :UInt8).toNat=70:=rfl
 rw[a,b,d,e,f,g];split
 omega
 split
 omega
 split <;> omega
theorem T9 {p:UInt8→Prop} (h: ∀n:_root_.Fin 256,p (UInt8.ofNat n.val)) (c:UInt8):p c:=by
 have:=h ⟨c.toNat,c.toNat_lt⟩
 simpa using this
theorem Iy {c:UInt8} (h:c≠37) (t:List UInt8):fd (c::t)=(c::(fd t).1,(fd t).2):=by
 match t with
 | []=>simp[fd,h]
 | [d]=>simp[fd,h]
 | a::b::t=>rw[fd,ax h]
theorem Iz {a b:UInt8} (c:0≤cM a) (d:0≤cM b) (t:List UInt8):fd (37::a::b::t)=(nP a b::(fd t).1,(fd t).2):=by
 rw[fd,ag av,ax ⟨c,d⟩]
theorem B7 {t:List UInt8} (h: ∀a b u,t=a::b::u→ ¬(0≤cM a∧0≤cM b)):fd (37::t)=(37::(fd t).1,false):=by
 match t,h with
 | [],_=>simp[fd]
 | [d],_=>simp[fd]
 | a::b::t,h=>rw[fd,ag av,ag (h a b t rfl)]
theorem ye: ∀(n:Nat) (s:List UInt8),s.length≤n→(fd s).1.length≤s.length
 | _,[],_=>by simp[fd]
 | 0,_::_,h=>by simp at h
 | n+1,c::t,h=>by
  simp only[eK] at h ⊢
  by_cases d:c=37
  subst d;by_cases f: ∃a b u,t=a::b::u∧0≤cM a∧0≤cM b
  obtain⟨a,b,u,rfl,i,j⟩:=f;rw[Iz i j];simp only[eK] at h ⊢
  have:=ye n u aa
  omega
  rw[B7 (λa b u e g=>f ⟨a,b,u,e,g.1,g.2⟩)];have:=ye n t aa
  simp only[eK];omega
  rw[Iy d];have:=ye n t aa
  simp only[eK];omega
def yf:List UInt8:=[102,105,108,101,58,47,47]
def yg (s:List UInt8):List UInt8:=s.map qg
def o9 (s:List UInt8):Option (List UInt8 × List UInt8):=
 if 7≤s.length∧yg (s.take 7)=yf then
  (if Lib.indexByte (s.drop 7) 47<0 then none else some ((s.drop 7).take (Lib.indexByte (s.drop 7) 47).toNat,(fd ((s.drop 7).drop (Lib.indexByte (s.drop 7) 47).toNat)).1))
 else none
theorem rh (w:World) (c lo hi:UInt8):
 Calls prog 404 [.int .u8 (c.toNat:Int),.int .u8 (lo.toNat:Int),.int .u8 (hi.toNat:Int)].toArray w (λe w'=>e= .returned (.bool (ln c lo hi))∧w'=w):=by
 refine calls (n:=15) func404 rfl ntmps404 rfl ?_;refine bo ?_;refine aV 10 rfl (λa=>?_) (λa=>?_);have d:=aY a
 refine bw ?_;intro f b;exact⟨by unfold ln;rw[b1 (show lo.toNat≤c.toNat by omega)];simp,b⟩;have d:=a8 a
 refine aJ ?_;intro f b;exact⟨by unfold ln;rw[cm (show ¬lo.toNat≤c.toNat by omega)];rfl,b⟩
theorem IA (w:World) (c:UInt8):
 Calls prog 453 [.int .u8 (c.toNat:Int)].toArray w (λe w'=>e= .returned (.int .i64 (cM c))∧w'=w):=by
 have h:=c.toNat_lt
 refine calls (n:=23) func453 rfl ntmps453 rfl ?_;refine aR ?_;refine ja rfl wS rfl (λw' _=>rh w' c 48 57) ?_;refine ah ?_;refine b2 rfl (λa=>?_) (λa=>?_);have b:48≤c.toNat:=by simp[ln] at a;exact a.1
 refine ah ?_;refine gI rfl rfl rfl (r:=(c.toNat:Int) - 48) (nh aa aa) ?_;refine aK ?_;intro g d;exact⟨by rw[cM,ax a],d⟩;refine ah ?_;refine ja rfl wS rfl (λw' _=>rh w' c 97 102) ?_;refine ah ?_;refine b2 rfl (λb=>?_) (λb=>?_);have f:97≤c.toNat:=by simp[ln] at b;exact b.1
 refine ah ?_;refine gI rfl rfl rfl (r:=(c.toNat:Int) - 97) (nh aa aa) ?_;refine aJ ?_;intro g d;exact⟨by rw[cM,ag (by simp[a]),ax b],d⟩;refine ah ?_;refine ja rfl wS rfl (λw' _=>rh w' c 65 70) ?_;refine ah ?_;refine b2 rfl (λf=>?_) (λf=>?_);have i:65≤c.toNat:=by simp[ln] at f;exact f.1
 refine ah ?_;refine gI rfl rfl rfl (r:=(c.toNat:Int) - 65) (nh aa aa) ?_;refine aJ ?_;intro g d;exact⟨by rw[cM,ag (by simp[a]),ag (by simp[b]),ax f],d⟩;refine aR ?_;intro g d;exact⟨by rw[cM,ag (by simp[a]),ag (by simp[b]),ag (by simp[f])],d⟩
theorem T_ (w:World) (s:List UInt8) (c:UInt8):
 Calls prog 339 [.string (bs s),.int .u8 (c.toNat:Int)].toArray w (λe w'=>e= .returned (.int .i64 (Lib.indexByte s c))∧w'=w):=by
 refine calls (n:=8) func339 rfl ntmps339 rfl ?_;refine aJ ?_;refine ja rfl xT rfl (λw' _=>xU w' s c) ?_;refine ay ?_;intro b a;exact⟨rfl,a⟩
def yh (a b:UInt8):Int:=IntKind.u8.wrap (((max 0 (cM a)).toNat*16 ||| (max 0 (cM b)).toNat:Nat):Int)
def tn (s:List UInt8) (i:Nat):Value:=if i+2<s.length then .tuple #[.int .u8 (yh (s.getD (i+1) 0) (s.getD (i+2) 0)),.bool (decide (0≤cM (s.getD (i+1) 0)) && decide (0≤cM (s.getD (i+2) 0)))] else .tuple #[.int .u8 0,.bool false]
theorem IB (w:World) (s:List UInt8) (i:Nat) (u:s.length≤1000000) (hi:i<s.length):
 Calls prog 435 [.string (bs s),.int .i64 (i:Int)].toArray w (λe w'=>e= .returned (tn s i)∧Ext [] w w'):=by
 refine aW func435 ntmps435 ?_;refine dB ?_;refine aj (λt=>?_) (λt=>?_);refine aJ ?_;intro j c;exact⟨by rw[tn,ag aa],c.ext⟩;obtain⟨a,k⟩ : ∃a,s[i+1]? = some a:=⟨s[i+1]'aa,bE _⟩;obtain⟨b,l⟩ : ∃b,s[i+2]? = some b:=⟨s[i+2]'aa,bE _⟩;have v:=yd a
 have x:=yd b
 refine ah ?_;refine bG [0,1,2,3,4,5,6,7,8,9,10,11] 0 [[]] ?_;refine ah ?_;refine aL rfl (λd f=>(hZ (q:=i+1) underlying9 rfl rfl rfl aa k aG)) ?_;refine aL rfl (λd f=>(ja rfl Fa rfl (λw' _=>IA w' a) aG)) ?_;refine ah ?_;refine aL rfl (λd f=>(hZ (q:=i+2) underlying9 rfl rfl rfl aa l aG)) ?_;refine aL rfl (λd f=>(ja rfl Fa rfl (λw' _=>IA w' b) aG)) ?_;refine al ?_;have y: (max 0 (cM a)).toNat*16 ||| (max 0 (cM b)).toNat<2 ^ 8:=oa aa aa
 refine ah ?_;refine ox rfl rfl rfl a1 (r:=max 0 (cM a)*16) (by rw[show min (4 :Int).toNat IntKind.i64.bits=4 from rfl];exact wrap64 aa aa) ?_;refine ar ?_;refine mz rfl rfl rfl (r:=(((max 0 (cM a)).toNat*16 ||| (max 0 (cM b)).toNat:Nat):Int)) (or_eq (m:=(max 0 (cM a)).toNat*16) (n:=(max 0 (cM b)).toNat) aa aa (by show _<2 ^ 64;omega) (by show _<2 ^ 64;omega) (wrap64 aa aa)) ?_;refine dl rfl rfl underlying3 underlying5 (r:=yh a b) rfl ?_;refine ah ?_;have o:s.getD (i+1) 0=a:=by simp[List.getD,k]
 have p:s.getD (i+2) 0=b:=by simp[List.getD,l]
 refine aV 32 rfl (λg=>?_) (λg=>?_);have h:=aY g
 refine bo ?_;intro j c;exact⟨by rw[tn,ax aa,o,p,b1 h,Bool.true_and],c.ext⟩;have h:=a8 g
 refine aJ ?_;intro j c;exact⟨by rw[tn,ax aa,o,p,cm h,Bool.false_and],c.ext⟩
theorem Ua (w:World) (c:UInt8):
 Calls prog 403 [.int .u8 (c.toNat:Int)].toArray w (λe w'=>e= .returned (.string (bs [qg c]))∧Ext [] w w'):=by
 have j:=c.toNat_lt
 refine aW func403 ntmps403 ?_;refine aJ ?_;refine ja rfl wS rfl (λw' _=>rh w' c 65 90) ?_;refine ar ?_;refine b2 rfl (λa=>?_) (λa=>?_);have k:c.toNat≤90:=by simp[ln] at a;exact a.2
 refine ar ?_;refine gH rfl rfl rfl (r:=((qg c).toNat:Int)) (by rw[nh aa aa,qg,ax a];simp;omega) ?_;refine aC ?_;intro f g h;refine i_ (s:=[qg c]) underlying62 underlying5 underlying9 rfl rfl (λw' b=>Rd.hf (E:=cy) (L:=[qg c]) b Has.head rfl a1) ?_;refine ay ?_;intro i d;exact⟨rfl,d.ext⟩;refine al ?_;intro f g h;refine i_ (s:=[c]) underlying62 underlying5 underlying9 rfl rfl (λw' b=>Rd.hf (E:=cy) (L:=[c]) b Has.head rfl a1) ?_;refine ay ?_;intro i d;exact⟨by rw[qg,ag (by simp[a])],d.ext⟩
def tq:Shelf.Ren:=⟨λ| 166=>79 | 169=>80 | 240=>125 | 276=>187 | n=>n,λ| 0=>0 | 3=>3 | 4=>4 | 5=>5 | 9=>9 | 20=>20 | 37=>62 | 70=>92 | 72=>94 | 75=>188 | 80=>192 | 127=>233 | 164=>285 | n=>n,λn=>n⟩
theorem Ub:Lays.n166 prog tq where
 mixed:=by kernel_rfl
 f166:=func79.trans (aX some ab)
 f240:=func125.trans (aX some ab)
 f276:=func187.trans (aX some ab)
 t0:=underlying0
 a0:=isAgg0
 z0:=sizeOf0
 v0:=zeroValue0
 t3:=underlying3
 a3:=isAgg3
 z3:=sizeOf3
 v3:=zeroValue3
 t4:=underlying4
 a4:=isAgg4
 z4:=sizeOf4
 v4:=zeroValue4
 t9:=underlying9
 a9:=isAgg9
 z9:=sizeOf9
 v9:=zeroValue9
 t20:=underlying20
 a20:=isAgg20
 z20:=sizeOf20
 v20:=zeroValue20
 t37:=underlying62
 a37:=isAgg62
 z37:=sizeOf62
 v37:=zeroValue62
 t70:=underlying92
 a70:=isAgg92
 z70:=sizeOf92
 v70:=zeroValue92
 t72:=underlying94
 a72:=isAgg94
 z72:=sizeOf94
 v72:=zeroValue94
 t75:=underlying188
 a75:=isAgg188
 z75:=sizeOf188
 v75:=zeroValue188
 t164:=underlying285
 a164:=isAgg285
 z164:=sizeOf285
 v164:=zeroValue285
theorem yi:Lays.n169 prog tq where
 mixed:=by kernel_rfl
 f169:=func80.trans (aX some ab)
 t0:=underlying0
 a0:=isAgg0
 z0:=sizeOf0
 v0:=zeroValue0
 t3:=underlying3
 a3:=isAgg3
 z3:=sizeOf3
 v3:=zeroValue3
 t9:=underlying9
 a9:=isAgg9
 z9:=sizeOf9
 v9:=zeroValue9
 t37:=underlying62
 a37:=isAgg62
 z37:=sizeOf62
 v37:=zeroValue62
 t70:=underlying92
 a70:=isAgg92
 z70:=sizeOf92
 v70:=zeroValue92
 t72:=underlying94
 a72:=isAgg94
 z72:=sizeOf94
 v72:=zeroValue94
 t127:=underlying233
 a127:=isAgg233
 z127:=sizeOf233
 v127:=zeroValue233
theorem vo:Builder.Extra prog tq where
 sizeBuilder:=by kernel_rfl
 liesBuilder:=by kernel_rfl
 t5:=underlying5
 a5:=isAgg5
 z5:=sizeOf5
 v5:=zeroValue5
 infoByte:=by kernel_rfl
 cellsByte:=by kernel_rfl
 sizeByte:=by kernel_rfl
 neB5:=by decide
theorem Uc.ext {c b:Nat} {xs:List Value} {w w':World} {T e:TypeId} (h:Lib.IsBuilder T e c b xs w) (a:Ext [] w w'):Lib.IsBuilder T e c b xs w':=by
 have d: ∀p,Lib.BuilderAt T e c b p xs w→Lib.BuilderAt T e c b p xs w':=by
  intro p ai;have f:=ai.lt
  obtain⟨g,v,i,j,l⟩:=ai;refine⟨g,v,?_,j.kept (row:=none) ⟨a.os,a.tape,a.output,a.size,λk m _=>a.block k m av⟩ ?_,l⟩;rw[a.block b f av];exact i
  cases v.ownBlock <;> simp
 exact h.elim (λx=> .inl (d _ x)) (λx=> .inr (d _ x))
def tr (w:World) (b:Nat) (s:List UInt8) (w':World):Prop:=Ext [] w w'∧Lib.IsBuilder 94 5 w.heap.size b (Lib.byteCells s) w'
theorem Ext.vp {w w' b:World} (h:Ext [] w w') (a:Below w.heap.size w' b):Ext [] w b:=
 ⟨a.os.trans h.os,a.tape.trans h.tape,a.output.trans h.output,fp h.size a.size,λk c d=>(a.block k c).trans (h.block k c d)⟩
theorem BQ (w:World) (b:Nat) (s t:List UInt8) (w':World) (h:tr w b s w') (c:s.length+t.length≤140737488355328):
 Calls prog 79 [.pointer (some ⟨b,0,none⟩),.string (bs t)].toArray w' (λe a=>e= .returned (.tuple #[.int .i64 (t.length:Int),.nilIface])∧tr w b (s++t) a):=by
 have:=Any.Builder_WriteString Ub vo w.heap.size b (Lib.byteCells s) (bs t) w' h.2 (by rw[Lib.byteCells_length,hz];exact c) h.1.size
 refine Calls.mono this ?_;rintro e a ⟨rfl,d,f⟩;refine⟨by rw[hz],Ext.vp h.1 f,.inr ?_⟩;have e:Lib.byteCells (s++t)=Lib.byteCells s++Lib.strCells (bs t):=by rw[Lib.strCells_eq];simp[Lib.byteCells]
 rw[e];exact d
theorem Ud (w:World) (b:Nat) (s:List UInt8) (w':World) (h:tr w b s w'):
 Calls prog 80 [.pointer (some ⟨b,0,none⟩)].toArray w' (λe a=>e= .returned (.string (bs s))∧Ext [] w a):=by
 by_cases d:s=[]
 subst d;refine Calls.mono (Any.Builder_String_empty yi vo w.heap.size b w' h.2 h.1.size) ?_;rintro e a ⟨rfl,c⟩;exact⟨rfl,Ext.vp h.1 c⟩;refine Calls.mono (Any.Builder_String yi vo w.heap.size b s w' h.2 d) ?_;rintro e a ⟨rfl,c⟩;exact⟨rfl,Ext.vp h.1 c⟩
theorem Ue:ad prog 79:=ad.of func79 ab ab
theorem B8:ad prog 80:=ad.of func80 ab ab
theorem xV (w:World) (f:FuncId) (g:UInt8→List UInt8) (m:ad prog f) (n: ∀w' c,Calls prog f [.int .u8 (UInt8.toNat c:Int)].toArray w' (λe d=>e= .returned (.string (bs (g c)))∧Ext [] w' d)) (h: ∀c,(g c).length≤3) (s:List UInt8) (z:s.length≤1000000):
 Calls prog 402 [.string (bs s),.func (.func f) #[] #[]].toArray w (λe w'=>e= .returned (.string (bs (s.flatMap g)))∧Ext [] w w'):=by
 have o: ∀l:List UInt8,(l.flatMap g).length≤3*l.length:=by
  intro l;induction l with
  | nil=>simp
  | cons c l A=>have:=h c;simp only[n2,b0,eK];omega
 refine aW func402 ntmps402 ?_;refine aK ?_;intro b p B;refine aJ ?_;refine b3 (ι:=Nat) (λi=>[(0,.string (bs s)),(1,.func (.func f) #[] #[]),(5,.pointer (some ⟨b,0,none⟩)),(6,.int .i64 (i:Int))]) (λi=>tr w b ((s.take i).flatMap g)) (λi=>i≤s.length) (λi=>s.length - i) ?_ ?_;refine λw' a=>⟨0,bN _,(cu rfl rfl rfl rfl),a.ext,.inl ?_⟩
 have r:=a.has (c:=aD b [.pointer none,.slice none 0 0] 94) Has.head
 exact⟨p,.slice none 0 0,r,World.ownsRow_nil _ _ _ _,by simp[Value.ownBlock]⟩;rintro i hi;refine aJ ?_;refine aj (λt=>?_) (λt=>?_);obtain⟨c,j⟩ : ∃c,s[i]? = some c:=⟨s[i]'aa,bE _⟩;have u: (s.take (i+1)).flatMap g=(s.take i).flatMap g++g c:=by rw[fU,j,pm,tV];simp
 have C:=o (s.take i)
 have D:=h c
 have E: (s.take i).length≤s.length:=by rw[dn];omega
 refine aK ?_;refine hZ (q:=i) underlying9 rfl rfl rfl aa j ?_;refine Ac (v:= .string (bs (g c))) (H':=tr w b ((s.take i).flatMap g)) rfl rfl m rfl (λw' a=>?_) ?_;refine Calls.mono (n w' c) ?_;rintro e d ⟨rfl,k⟩;exact⟨rfl,a.1.dU k,Uc.ext a.2 k⟩;refine sq (v:= .tuple #[.int .i64 ((g c).length:Int),.nilIface]) (H':=tr w b ((s.take (i+1)).flatMap g)) rfl Ue rfl (λw' a=>?_) ?_;rw[u];exact BQ w b _ (g c) w' a aa;refine aK ?_;exact bg (i+1) aa aa bO (λw' a=>a);have x:s.take i=s:=eu aa
 rw[x];refine aC ?_;refine sq (v:= .string (bs (s.flatMap g))) (H':=λw'=>Ext [] w w') rfl B8 rfl (λw' a=>Ud w b _ w' a) ?_;refine ay ?_;intro F y;exact⟨rfl,y⟩
theorem Uf (w:World) (s:List UInt8) (a:s.length≤1000000):
 Calls prog 338 [.string (bs s)].toArray w (λe w'=>e= .returned (.string (bs (yg s)))∧Ext [] w w'):=by
 refine aW func338 ntmps338 ?_;refine aK ?_;refine ao rfl OF rfl (λw' _=>xV w' 403 (λc=>[qg c]) OG (λb c=>Ua b c) (λc=>by simp) s a) ?_;refine ay ?_;intro f d;refine⟨?_,d.ext⟩;rw[yg,List.map_eq_flatMap]
set_option maxRecDepth 100000 in
theorem Ug: ∀a b:_root_.Fin 16,a.val*16 ||| b.val=a.val*16+b.val:=by decide
theorem Uh {a b:UInt8} (f:0≤cM a) (g:0≤cM b):yh a b=((nP a b).toNat:Int):=by
 have h:=yd a
 have i:=yd b
 have d:max 0 (cM a)=cM a:=by omega
 have e:max 0 (cM b)=cM b:=by omega
 have c:=Ug ⟨(cM a).toNat,aa⟩ ⟨(cM b).toNat,aa⟩
 dsimp only at c
 rw[yh,d,e,c,nh aa aa,nP];have: (UInt8.ofNat (16*(cM a).toNat+(cM b).toNat)).toNat=16*(cM a).toNat+(cM b).toNat:=by
  rw[qG];omega
 omega
theorem Am (w:World) (s:List UInt8) (p:s.length≤1000000):
 Calls prog 406 [.string (bs s)].toArray w (λe w'=>e= .returned (.tuple #[.string (bs (fd s).1),.bool (fd s).2])∧Ext [] w w'):=by
 refine aW func406 ntmps406 ?_;refine aC ?_;refine jM 5 1 ?_;refine dB ?_;refine b3 (ι:=Nat × Value × List UInt8 × Bool) (λt=>[(0,.string (bs s)),(4,t.2.1),(5,.bool t.2.2.2),(6,.int .i64 (t.1 :Int))]) (λt=>af w [] [own 5 1 t.2.1 t.2.2.1.length (cy.all t.2.2.1)]) (λt=>t.1≤s.length∧t.2.2.1.length≤t.1∧fd s=(t.2.2.1++(fd (s.drop t.1)).1,t.2.2.2 && (fd (s.drop t.1)).2)) (λt=>s.length - t.1) ?_ ?_;exact λw' f=>⟨(0,.slice none 0 0,[],true),⟨bN _,bN _,by simp⟩,(cu rfl rfl rfl rfl),f⟩
 rintro⟨i,v,g,r⟩ ⟨hi,G,d⟩;dsimp only at hi G d ⊢
 refine aJ ?_;refine aj (λH=>?_) (λH=>?_);obtain⟨c,l⟩ : ∃c,s[i]? = some c:=⟨s[i]'aa,bE _⟩;have ak:s.drop i=c::s.drop (i+1):=by rw[kR aa,(cU.1 l).2]
 have j: ∀x:UInt8,cy.all (g++[x])=cy.all g++cy.enc x:=λx=>bA.hc cy g x
 rw[ak] at d
 refine aJ ?_;refine hZ (q:=i) underlying9 rfl rfl rfl aa l ?_;refine ah ?_;refine aj (λz=>?_) (λz=>?_);have m:c≠37:=λe=>z (by rw[e];rfl)
 refine ay ?_;refine hZ (q:=i) underlying9 rfl rfl rfl aa l ?_;refine aq ?_;intro X Y Z;refine gm fi rfl rfl rfl bi (λ_=>by exact cz) rfl (ic rfl) (by simp only[maxLen];omega) aa (λI Za=>?_);refine bw ?_;rw[Iy m] at d
 refine bg (i+1,I,g++[c],r) ⟨by dsimp only;omega,by simp;omega,by rw[d];simp⟩ bm (cu rfl rfl rfl rfl) (λw' f=>?_);dsimp only;rw[j,b0];exact f;have m:c=37:=UInt8.toNat_inj.1 (by have: (37 :UInt8).toNat=37:=rfl;omega)
 subst m;refine aS ?_;by_cases A:i+2<s.length
 obtain⟨a,B⟩ : ∃a,s[i+1]? = some a:=⟨s[i+1]'aa,bE _⟩;obtain⟨b,C⟩ : ∃b,s[i+2]? = some b:=⟨s[i+2]'aa,bE _⟩;have J:s.getD (i+1) 0=a:=by simp[List.getD,B]
 have K:s.getD (i+2) 0=b:=by simp[List.getD,C]
 have D:s.drop (i+1)=a::b::s.drop (i+3):=by rw[kR aa,(cU.1 B).2,kR aa,(cU.1 C).2]
 refine ah ?_;refine ao rfl E_ rfl (λw' _=>IB w' s i p aa) ?_;rw[tn,ax A,J,K];refine bw ?_;refine b2 rfl (λh=>?_) (λh=>?_);simp only[dY,e3] at h
 rw[D,Iz h.1 h.2] at d
 rw[Uh h.1 h.2];refine ay ?_;intro Zb Zc Zd;refine gm fi rfl rfl rfl bi (λ_=>by exact cz) rfl (ic rfl) (by simp only[maxLen];omega) aa (λL Ze=>?_);refine eG ?_;refine bg (i+3,L,g++[nP a b],r) ⟨by dsimp only;omega,by simp;omega,by rw[d];simp⟩ bm (Sub.cons a7 (Sub.cons a7 (Sub.cons a7 (Sub.cons (by simp[look];omega) Sub.nil)))) (λw' f=>?_);dsimp only;rw[j,b0];exact f;simp only[tU,e2] at h
 have n: ∀x y u,s.drop (i+1)=x::y::u→ ¬(0≤cM x∧0≤cM y):=λx y u e=>by
  rw[D] at e
  simp only[rJ] at e
  obtain⟨rfl,rfl,_⟩:=e;omega
 rw[B7 n] at d
 refine al ?_;intro M N O;refine gm fi rfl rfl rfl bi (λ_=>by exact cz) rfl (ic rfl) (by simp only[maxLen];omega) aa (λo P=>?_);refine bH ?_;refine bg (i+1,o,g++[37],false) ⟨by dsimp only;omega,by simp;omega,by rw[d];simp⟩ bm (cu rfl rfl rfl rfl) (λw' f=>?_);dsimp only;rw[j,b0];exact f;have n: ∀x y u,s.drop (i+1)=x::y::u→ ¬(0≤cM x∧0≤cM y):=λx y u e=>by
  have:=aX List.length e
  simp at this
  omega
 rw[B7 n] at d
 refine ah ?_;refine ao rfl E_ rfl (λw' _=>IB w' s i p aa) ?_;rw[tn,ag A];refine eG ?_;intro M N O;refine gm fi rfl rfl rfl bi (λ_=>by exact cz) rfl (ic rfl) (by simp only[maxLen];omega) aa (λo P=>?_);refine bH ?_;refine bg (i+1,o,g++[37],false) ⟨by dsimp only;omega,by simp;omega,by rw[d];simp⟩ bm (cu rfl rfl rfl rfl) (λw' f=>?_);dsimp only;rw[j,b0];exact f;have Q:i=s.length:=by omega
 refine hv (v:=v) Has.head (λR S T Zf Zg Zh Zi=>?_);subst T;refine aK ?_;refine i_ (s:=g) (F:=λk=>(Value.slice R g.length S).ownBlock=some k) underlying62 underlying5 underlying9 rfl rfl (λw' f=>?_) ?_;obtain⟨Zj,Zk,U,V⟩:=Rd.fX (E:=cy) (f.has Has.head) rfl;cases U
 exact V;refine aC ?_;intro Zl W;subst Q;rw[List.drop_length] at d
 refine⟨?_,W.ext⟩;rw[d];simp[fd]
theorem Ui (w:World) (s:List UInt8) (a:s.length≤1000000):
 Calls prog 340 [.string (bs s)].toArray w (λe w'=>e= .returned (.string (bs (fd s).1))∧Ext [] w w'):=by
 refine aW func340 ntmps340 ?_;refine aK ?_;refine ao rfl OH rfl (λw' _=>Am w' s a) ?_;refine cE ?_;intro c b;exact⟨rfl,b.ext⟩
def o_ (s:List UInt8):Value:=match o9 s with
 | some p=> .tuple #[.string (bs p.1),.string (bs p.2),.int .i64 0]
 | none=> .tuple #[.string (bs []),.string (bs []),.int .i64 4]
theorem Uj (w:World) (s:List UInt8) (n:s.length≤1000000):
 Calls prog 259 [.string (bs s)].toArray w (λe w'=>e= .returned (o_ s)∧Ext [] w w'):=by
 refine aW func259 ntmps259 ?_;refine b5 ?_;refine aV 10 rfl (λb=>?_) (λb=>?_);have j:=aY b
 refine eT ?_;intro c a;exact⟨by rw[o_,o9,ag aa],a.ext⟩;have j:=a8 b
 have o: (s.take 7).length=7:=by rw[dn];omega
 refine ah ?_;refine pv 7 underlying9 rfl rfl rfl a7 aa ?_;refine aq ?_;refine ao rfl N6 rfl (λw' _=>Uf w' (s.take 7) aa) ?_;refine aq ?_;refine Ls rfl rfl rfl ?_;refine ah ?_;refine aj (λd=>?_) (λd=>?_);refine aR ?_;intro c a;exact⟨by rw[o_,o9,ag (by rintro⟨_,h⟩;exact d (by simpa [yf] using h))],a.ext⟩;have g:yg (s.take 7)=yf:=by simpa [yf] using d
 refine ay ?_;refine pu 7 underlying9 rfl rfl rfl a7 aa ?_;refine al ?_;refine ja rfl N7 rfl (λw' _=>T_ w' (s.drop 7) 47) ?_;refine aR ?_;refine aj (λf=>?_) (λf=>?_);refine aR ?_;intro c a;exact⟨by rw[o_,o9,ax ⟨aa,g⟩,ax f],a.ext⟩;rcases p9 (s.drop 7) 47 with ⟨_,h⟩ | ⟨pre,p,k,q,i⟩
 omega
 have r:pre.length≤(s.drop 7).length:=by rw[k];simp
 have t: (s.drop 7).length≤1000000:=by rw[fz];omega
 rw[i];refine ah ?_;refine bG [0,1,2,3,4,5] 1 [[(6,false,[7,8,9])]] ?_;refine ar ?_;refine aL rfl (λl m=>(pv pre.length underlying9 rfl rfl rfl a7 aa aG)) ?_;refine ar ?_;refine aL rfl (λl m=>(pu pre.length underlying9 rfl rfl rfl a7 aa aG)) ?_;refine ar ?_;refine ao rfl N8 rfl (λw' _=>Ui w' ((s.drop 7).drop pre.length) (by rw[fz];omega)) ?_;refine aJ ?_;intro c a;refine⟨?_,a.ext⟩;rw[o_,o9,ax ⟨aa,g⟩,ag f,i];rfl
def tt (s t:List UInt8):Bool:=decide (t.length≤s.length) && decide (s.take t.length=t)
theorem Uk:ad prog 407:=ad.of func407 ab ab
theorem Ul (w:World) (s t:List UInt8):
 Calls prog 407 [.string (bs s),.string (bs t)].toArray w (λe w'=>e= .returned (.bool (tt s t))∧w'=w):=by
 refine calls (n:=18) func407 rfl ntmps407 rfl ?_;refine bH ?_;refine aV 10 rfl (λa=>?_) (λa=>?_);have c:=aY a
 refine aC ?_;refine pv t.length underlying9 rfl rfl rfl a7 aa ?_;refine aR ?_;intro d b;exact⟨by rw[tt,b1 (by omega:t.length≤s.length),Bool.true_and],b⟩;have c:=a8 a
 refine bw ?_;intro d b;exact⟨by rw[tt,cm (by omega: ¬t.length≤s.length),Bool.false_and],b⟩
theorem IC (w:World) (s t:List UInt8):
 Calls prog 400 [.string (bs s),.string (bs t)].toArray w (λe w'=>e= .returned (.bool (tt s t))∧w'=w):=by
 refine calls (n:=8) func400 rfl ntmps400 rfl ?_;refine aJ ?_;refine ja rfl Uk rfl (λw' _=>Ul w' s t) ?_;refine ay ?_;intro b a;exact⟨rfl,a⟩
section
variable {P:Program} {n:Nat} {ops:Array Oper} {Q:cl} {rest:List Oper} {l:Fr} {H:World→Prop} {d:Nat} {ty:TypeId} {pos:String} {a6:Array Edge} {x:Operand}
theorem l3 {t:TypeId} {v:Value} (a:P.concrete t=true) (ak:Nat.blt d n=true) (b:a_ l x=some v) (h:az P n ops Q rest ((d,.iface t v)::l) H):
 az P n ops Q (⟨some d,.makeInterface t x,ty,pos,a6,none⟩::rest) l H:=
 da _ ak (λf w c=>by
  have e:=run_makeInterface (P:=P) w t v a
  simp[execOp,c x _ b,e]) h
end
theorem l4:ad prog 465:=ad.of func465 ab ab
theorem l5 (w:World) (c:UInt8):Calls prog 465 [.int .u8 (c.toNat:Int)].toArray w (λe w'=>e= .returned (.int .u8 ((c.toNat ||| 32 :Nat):Int))∧Ext [] w w'):=by
 have a:=UInt8.toNat_lt c
 have d:c.toNat ||| 32<2 ^ 8:=oa a a1
 refine aW func465 ntmps465 ?_;refine aK ?_;refine mz (r:=((c.toNat ||| 32 :Nat):Int)) rfl rfl rfl (or_eq (m:=c.toNat) (n:=32) rfl rfl (by simp only[IntKind.bits];omega) a1 (nh aa aa)) ?_;refine ay ?_;intro f b;exact⟨rfl,b.ext⟩
theorem ID: ∀c:UInt8,¬(48≤c.toNat∧c.toNat≤57)→((97≤(c.toNat ||| 32)∧(c.toNat ||| 32)≤122)∧(c.toNat ||| 32) - 87<16→cM c=(((c.toNat ||| 32) - 87 :Nat):Int))∧(¬(97≤(c.toNat ||| 32)∧(c.toNat ||| 32)≤122)∨16≤(c.toNat ||| 32) - 87→cM c= -1):=by
 refine T9 ?_;decide+kernel
def vq (c:UInt8) (y:Nat):Prop:=y<16∧cM c=(y:Int)
theorem l6 {c:UInt8} (a: ¬(48≤c.toNat∧c.toNat≤57)) (h: ¬(97≤(c.toNat ||| 32)∧(c.toNat ||| 32)≤122)∨16≤(c.toNat ||| 32) - 87):cM c= -1:=(ID c a).2 h
theorem IE {c:UInt8} (h:48≤c.toNat∧c.toNat≤57):vq c (c.toNat - 48):=by
 refine⟨aa,?_⟩;have a: (48 :UInt8).toNat=48:=rfl
 have b: (57 :UInt8).toNat=57:=rfl
 unfold cM ln;rw[ax (by rw[a,b,b1 h.1,b1 h.2];rfl)];omega
theorem yj {c:UInt8} (a: ¬(48≤c.toNat∧c.toNat≤57)) (b:97≤(c.toNat ||| 32)∧(c.toNat ||| 32)≤122) (h: (c.toNat ||| 32) - 87<16):vq c ((c.toNat ||| 32) - 87):=⟨h,(ID c a).1 ⟨b,h⟩⟩
theorem IF {b:World} {S:List Nat} {cs:List Chunk} {w:World} (h:af b S cs w) {g e:Nat} {L:List UInt8} (c:Has cs (jn g e (cy.all L))) {k:Nat} {a:UInt8} (d:L[k]? = some a):w.cell? ((⟨g,0,none⟩ :Addr).add (k*1))=some (.int .u8 (a.toNat:Int)):=by
 rw[Addr.add_lit,dG];exact af.Iv h c (cy.lE (j:=0) d rfl)
def IG (a b:UInt8) (v:Value):Prop:=
 (∃y z:Nat,y<16∧z<16∧cM a=(y:Int)∧cM b=(z:Int)∧v= .tuple #[.int .u64 ((16*y+z:Nat):Int),.nilIface])∨
 ((cM a= -1∨cM b= -1)∧v= .tuple #[.int .u64 0,.iface 452 (.int .i64 2)])
def Um (a b:UInt8) (i u:Nat):Prop:=(i=0∧u=0)∨(i=1∧vq a u)∨(i=2∧ ∃y z,vq a y∧vq b z∧u=16*y+z)
theorem Un (w:World) (a b:UInt8):Calls prog 452 [.string (bs [a,b]),.int .i64 16,.int .i64 8].toArray w (ng (λv _=>IG a b v) w):=by
 have H:=UInt8.toNat_lt a
 have I:=UInt8.toNat_lt b
 refine aW func452 ntmps452 ?_;refine bH ?_;refine fL rfl ((cm av)) ?_;refine Pc ?_;refine qX ?_;refine dl (r:=8) rfl rfl underlying3 underlying258 rfl ?_;refine ox (r:=256) rfl rfl rfl a1 rfl ?_;refine gI (r:=255) rfl rfl rfl rfl ?_;refine ef ?_;refine Ix (s:=[a,b]) underlying9 underlying62 underlying5 rfl rfl (by show 2≤1000000;decide) (λb_ x J K L M=>?_);refine ay ?_;refine b3 (ι:=Nat × Nat) (λt=>[(1,.int .i64 16),(8,.bool false),(10,.int .u64 1152921504606846976),(11,.int .u64 255),(12,.bool false),(13,.int .u64 (t.2 :Int)),(99,.slice (some ⟨b_,0,none⟩) 2 x),(100,.int .i64 2),(101,.int .i64 (t.1 :Int))]) (λ_=>af w [] [jn b_ 5 (cy.all [a,b])]) (λt=>Um a b t.1 t.2) (λt=>2 - t.1) ?_ ?_;exact λw' d=>⟨(0,0),.inl ⟨rfl,rfl⟩,(su rfl rfl rfl rfl rfl rfl rfl rfl rfl),d⟩
 rintro⟨i,u⟩ D;dsimp only at D ⊢
 rcases D with ⟨rfl,rfl⟩ | ⟨rfl,p⟩ | ⟨rfl,y,z,E,F,rfl⟩
 have G:a.toNat ||| 32<256:=oa (n:=8) aa a1
 refine al ?_;refine ev rfl ((b1 aa)) ?_;refine al ?_;refine bD (q:=0) fi rfl rfl rfl a7 aa aa ?_;refine ba zi rfl rfl (λw' d=>IF d Has.head (k:=0) (a:=a) rfl) ?_;refine bo ?_;refine oi ([(1,.int .i64 16),(8,.bool false),(10,.int .u64 1152921504606846976),(11,.int .u64 255),(12,.bool false),(13,.int .u64 ((0 :Nat):Int)),(99,.slice (some ⟨b_,0,none⟩) 2 x),(100,.int .i64 2),(101,.int .i64 ((0 :Nat):Int)),(15,.int .u8 (a.toNat:Int)),(106,.bool false)]) (af w [] [jn b_ 5 (cy.all [a,b])]) ?_ ?_;refine aS ?_;refine aV 109 rfl (λg=>?_) (λg=>?_);have A:=aY g
 refine ay ?_;exact gn (Sub.cons rfl (mA rfl rfl rfl rfl rfl rfl rfl rfl rfl rfl)) (λ_ h=>h);have A:=a8 g
 refine aS ?_;exact gn (Sub.cons rfl (mA rfl rfl rfl rfl rfl rfl rfl rfl rfl rfl)) (λ_ h=>h);refine aC ?_;refine aV 115 rfl (λj=>?_) (λj=>?_);have B:=aY j
 refine aK ?_;refine aj (λC=>?_) (λC=>?_);refine ar ?_;refine gI (r:=((a.toNat - 48 :Nat):Int)) rfl rfl rfl (by rw[IntKind.wrap_u8];omega) ?_;refine aJ ?_;refine dl (r:=16) rfl rfl underlying3 underlying5 rfl ?_;refine ah ?_;refine fL rfl ((cm aa)) ?_;refine aR ?_;refine fL rfl ((cm aa)) ?_;refine al ?_;refine dl (r:=16) rfl rfl underlying3 underlying34 rfl ?_;refine kV (r:=(((0 :Nat)*16 :Nat):Int)) rfl rfl rfl (by rw[IntKind.wrap_u64];omega) ?_;refine aC ?_;refine dl (r:=((a.toNat - 48 :Nat):Int)) rfl rfl underlying5 underlying34 (by rw[IntKind.wrap_u64];omega) ?_;refine gH (r:=(((0 :Nat)*16+(a.toNat - 48):Nat):Int)) rfl rfl rfl (by rw[IntKind.wrap_u64];omega) ?_;refine aR ?_;refine cA rfl rfl (cm aa) ?_;refine aq ?_;refine cA rfl rfl (cm aa) ?_;refine aq ?_;refine cA rfl rfl (cm aa) ?_;refine aq ?_;refine kj rfl rfl (cm aa) rfl ?_;refine ar ?_;refine fL rfl ((cm aa)) ?_;refine bw ?_;exact bg (1,0*16+(a.toNat - 48)) (.inr (.inl ⟨rfl,by rw[qF,dG];exact (IE aa)⟩)) bm bO (λw' d=>d);refine ah ?_;refine ao rfl l4 rfl (λw' _=>l5 w' a) ?_;refine ar ?_;refine aV 125 rfl (λe=>?_) (λe=>?_);have l:=aY e
 refine ah ?_;refine ao rfl l4 rfl (λw' _=>l5 w' a) ?_;refine al ?_;refine aj (λm=>?_) (λm=>?_);refine ar ?_;refine ao rfl l4 rfl (λw' _=>l5 w' a) ?_;refine gI (r:=(((a.toNat ||| 32) - 97 :Nat):Int)) rfl rfl rfl (by rw[IntKind.wrap_u8];omega) ?_;refine gH (r:=(((a.toNat ||| 32) - 87 :Nat):Int)) rfl rfl rfl (by rw[IntKind.wrap_u8];omega) ?_;refine aJ ?_;refine dl (r:=16) rfl rfl underlying3 underlying5 rfl ?_;refine ah ?_;refine aj (λo=>?_) (λo=>?_);refine ar ?_;refine l3 ab rfl rfl ?_;refine bw ?_;intro f c;exact⟨_,rfl,c.ext,.inr ⟨.inl (l6 aa (.inr aa)),rfl⟩⟩;refine aR ?_;refine fL rfl ((cm aa)) ?_;refine al ?_;refine dl (r:=16) rfl rfl underlying3 underlying34 rfl ?_;refine kV (r:=(((0 :Nat)*16 :Nat):Int)) rfl rfl rfl (by rw[IntKind.wrap_u64];omega) ?_;refine aC ?_;refine dl (r:=(((a.toNat ||| 32) - 87 :Nat):Int)) rfl rfl underlying5 underlying34 (by rw[IntKind.wrap_u64];omega) ?_;refine gH (r:=(((0 :Nat)*16+((a.toNat ||| 32) - 87):Nat):Int)) rfl rfl rfl (by rw[IntKind.wrap_u64];omega) ?_;refine aR ?_;refine cA rfl rfl (cm aa) ?_;refine aq ?_;refine cA rfl rfl (cm aa) ?_;refine aq ?_;refine cA rfl rfl (cm aa) ?_;refine aq ?_;refine kj rfl rfl (cm aa) rfl ?_;refine ar ?_;refine fL rfl ((cm aa)) ?_;refine bw ?_;exact bg (1,0*16+((a.toNat ||| 32) - 87)) (.inr (.inl ⟨rfl,by rw[qF,dG];exact (yj aa aa aa)⟩)) bm bO (λw' d=>d);refine ar ?_;refine l3 ab rfl rfl ?_;refine bH ?_;intro f c;exact⟨_,rfl,c.ext,.inr ⟨.inl (l6 aa (.inl aa)),rfl⟩⟩;have l:=a8 e
 refine aR ?_;refine l3 ab rfl rfl ?_;refine bH ?_;intro f c;exact⟨_,rfl,c.ext,.inr ⟨.inl (l6 aa (.inl aa)),rfl⟩⟩;have B:=a8 j
 refine aR ?_;refine ao rfl l4 rfl (λw' _=>l5 w' a) ?_;refine ar ?_;refine aV 125 rfl (λe=>?_) (λe=>?_);have l:=aY e
 refine ah ?_;refine ao rfl l4 rfl (λw' _=>l5 w' a) ?_;refine al ?_;refine aj (λm=>?_) (λm=>?_);refine ar ?_;refine ao rfl l4 rfl (λw' _=>l5 w' a) ?_;refine gI (r:=(((a.toNat ||| 32) - 97 :Nat):Int)) rfl rfl rfl (by rw[IntKind.wrap_u8];omega) ?_;refine gH (r:=(((a.toNat ||| 32) - 87 :Nat):Int)) rfl rfl rfl (by rw[IntKind.wrap_u8];omega) ?_;refine aJ ?_;refine dl (r:=16) rfl rfl underlying3 underlying5 rfl ?_;refine ah ?_;refine aj (λo=>?_) (λo=>?_);refine ar ?_;refine l3 ab rfl rfl ?_;refine bw ?_;intro f c;exact⟨_,rfl,c.ext,.inr ⟨.inl (l6 aa (.inr aa)),rfl⟩⟩;refine aR ?_;refine fL rfl ((cm aa)) ?_;refine al ?_;refine dl (r:=16) rfl rfl underlying3 underlying34 rfl ?_;refine kV (r:=(((0 :Nat)*16 :Nat):Int)) rfl rfl rfl (by rw[IntKind.wrap_u64];omega) ?_;refine aC ?_;refine dl (r:=(((a.toNat ||| 32) - 87 :Nat):Int)) rfl rfl underlying5 underlying34 (by rw[IntKind.wrap_u64];omega) ?_;refine gH (r:=(((0 :Nat)*16+((a.toNat ||| 32) - 87):Nat):Int)) rfl rfl rfl (by rw[IntKind.wrap_u64];omega) ?_;refine aR ?_;refine cA rfl rfl (cm aa) ?_;refine aq ?_;refine cA rfl rfl (cm aa) ?_;refine aq ?_;refine cA rfl rfl (cm aa) ?_;refine aq ?_;refine kj rfl rfl (cm aa) rfl ?_;refine ar ?_;refine fL rfl ((cm aa)) ?_;refine bw ?_;exact bg (1,0*16+((a.toNat ||| 32) - 87)) (.inr (.inl ⟨rfl,by rw[qF,dG];exact (yj aa aa aa)⟩)) bm bO (λw' d=>d);refine ar ?_;refine l3 ab rfl rfl ?_;refine bH ?_;intro f c;exact⟨_,rfl,c.ext,.inr ⟨.inl (l6 aa (.inl aa)),rfl⟩⟩;have l:=a8 e
 refine aR ?_;refine l3 ab rfl rfl ?_;refine bH ?_;intro f c;exact⟨_,rfl,c.ext,.inr ⟨.inl (l6 aa (.inl aa)),rfl⟩⟩;have N:=p.1
 have G:b.toNat ||| 32<256:=oa (n:=8) aa a1
 refine al ?_;refine ev rfl ((b1 aa)) ?_;refine al ?_;refine bD (q:=1) fi rfl rfl rfl a7 aa aa ?_;refine ba zi rfl rfl (λw' d=>IF d Has.head (k:=1) (a:=b) rfl) ?_;refine bo ?_;refine oi ([(1,.int .i64 16),(8,.bool false),(10,.int .u64 1152921504606846976),(11,.int .u64 255),(12,.bool false),(13,.int .u64 ((u:Nat):Int)),(99,.slice (some ⟨b_,0,none⟩) 2 x),(100,.int .i64 2),(101,.int .i64 ((1 :Nat):Int)),(15,.int .u8 (b.toNat:Int)),(106,.bool false)]) (af w [] [jn b_ 5 (cy.all [a,b])]) ?_ ?_;refine aS ?_;refine aV 109 rfl (λg=>?_) (λg=>?_);have A:=aY g
 refine ay ?_;exact gn (Sub.cons rfl (mA rfl rfl rfl rfl rfl rfl rfl rfl rfl rfl)) (λ_ h=>h);have A:=a8 g
 refine aS ?_;exact gn (Sub.cons rfl (mA rfl rfl rfl rfl rfl rfl rfl rfl rfl rfl)) (λ_ h=>h);refine aC ?_;refine aV 115 rfl (λj=>?_) (λj=>?_);have B:=aY j
 refine aK ?_;refine aj (λC=>?_) (λC=>?_);refine ar ?_;refine gI (r:=((b.toNat - 48 :Nat):Int)) rfl rfl rfl (by rw[IntKind.wrap_u8];omega) ?_;refine aJ ?_;refine dl (r:=16) rfl rfl underlying3 underlying5 rfl ?_;refine ah ?_;refine fL rfl ((cm aa)) ?_;refine aR ?_;refine fL rfl ((cm aa)) ?_;refine al ?_;refine dl (r:=16) rfl rfl underlying3 underlying34 rfl ?_;refine kV (r:=((u*16 :Nat):Int)) rfl rfl rfl (by rw[IntKind.wrap_u64];omega) ?_;refine aC ?_;refine dl (r:=((b.toNat - 48 :Nat):Int)) rfl rfl underlying5 underlying34 (by rw[IntKind.wrap_u64];omega) ?_;refine gH (r:=((u*16+(b.toNat - 48):Nat):Int)) rfl rfl rfl (by rw[IntKind.wrap_u64];omega) ?_;refine aR ?_;refine cA rfl rfl (cm aa) ?_;refine aq ?_;refine cA rfl rfl (cm aa) ?_;refine aq ?_;refine cA rfl rfl (cm aa) ?_;refine aq ?_;refine kj rfl rfl (cm aa) rfl ?_;refine ar ?_;refine fL rfl ((cm aa)) ?_;refine bw ?_;exact bg (2,u*16+(b.toNat - 48)) (.inr (.inr ⟨rfl,_,_,p,(IE aa),by dsimp only;omega⟩)) bm (su rfl rfl rfl rfl rfl rfl rfl rfl rfl) (λw' d=>d);refine ah ?_;refine ao rfl l4 rfl (λw' _=>l5 w' b) ?_;refine ar ?_;refine aV 125 rfl (λe=>?_) (λe=>?_);have l:=aY e
 refine ah ?_;refine ao rfl l4 rfl (λw' _=>l5 w' b) ?_;refine al ?_;refine aj (λm=>?_) (λm=>?_);refine ar ?_;refine ao rfl l4 rfl (λw' _=>l5 w' b) ?_;refine gI (r:=(((b.toNat ||| 32) - 97 :Nat):Int)) rfl rfl rfl (by rw[IntKind.wrap_u8];omega) ?_;refine gH (r:=(((b.toNat ||| 32) - 87 :Nat):Int)) rfl rfl rfl (by rw[IntKind.wrap_u8];omega) ?_;refine aJ ?_;refine dl (r:=16) rfl rfl underlying3 underlying5 rfl ?_;refine ah ?_;refine aj (λo=>?_) (λo=>?_);refine ar ?_;refine l3 ab rfl rfl ?_;refine bw ?_;intro f c;exact⟨_,rfl,c.ext,.inr ⟨.inr (l6 aa (.inr aa)),rfl⟩⟩;refine aR ?_;refine fL rfl ((cm aa)) ?_;refine al ?_;refine dl (r:=16) rfl rfl underlying3 underlying34 rfl ?_;refine kV (r:=((u*16 :Nat):Int)) rfl rfl rfl (by rw[IntKind.wrap_u64];omega) ?_;refine aC ?_;refine dl (r:=(((b.toNat ||| 32) - 87 :Nat):Int)) rfl rfl underlying5 underlying34 (by rw[IntKind.wrap_u64];omega) ?_;refine gH (r:=((u*16+((b.toNat ||| 32) - 87):Nat):Int)) rfl rfl rfl (by rw[IntKind.wrap_u64];omega) ?_;refine aR ?_;refine cA rfl rfl (cm aa) ?_;refine aq ?_;refine cA rfl rfl (cm aa) ?_;refine aq ?_;refine cA rfl rfl (cm aa) ?_;refine aq ?_;refine kj rfl rfl (cm aa) rfl ?_;refine ar ?_;refine fL rfl ((cm aa)) ?_;refine bw ?_;exact bg (2,u*16+((b.toNat ||| 32) - 87)) (.inr (.inr ⟨rfl,_,_,p,(yj aa aa aa),by dsimp only;omega⟩)) bm (su rfl rfl rfl rfl rfl rfl rfl rfl rfl) (λw' d=>d);refine ar ?_;refine l3 ab rfl rfl ?_;refine bH ?_;intro f c;exact⟨_,rfl,c.ext,.inr ⟨.inr (l6 aa (.inl aa)),rfl⟩⟩;have l:=a8 e
 refine aR ?_;refine l3 ab rfl rfl ?_;refine bH ?_;intro f c;exact⟨_,rfl,c.ext,.inr ⟨.inr (l6 aa (.inl aa)),rfl⟩⟩;have B:=a8 j
 refine aR ?_;refine ao rfl l4 rfl (λw' _=>l5 w' b) ?_;refine ar ?_;refine aV 125 rfl (λe=>?_) (λe=>?_);have l:=aY e
 refine ah ?_;refine ao rfl l4 rfl (λw' _=>l5 w' b) ?_;refine al ?_;refine aj (λm=>?_) (λm=>?_);refine ar ?_;refine ao rfl l4 rfl (λw' _=>l5 w' b) ?_;refine gI (r:=(((b.toNat ||| 32) - 97 :Nat):Int)) rfl rfl rfl (by rw[IntKind.wrap_u8];omega) ?_;refine gH (r:=(((b.toNat ||| 32) - 87 :Nat):Int)) rfl rfl rfl (by rw[IntKind.wrap_u8];omega) ?_;refine aJ ?_;refine dl (r:=16) rfl rfl underlying3 underlying5 rfl ?_;refine ah ?_;refine aj (λo=>?_) (λo=>?_);refine ar ?_;refine l3 ab rfl rfl ?_;refine bw ?_;intro f c;exact⟨_,rfl,c.ext,.inr ⟨.inr (l6 aa (.inr aa)),rfl⟩⟩;refine aR ?_;refine fL rfl ((cm aa)) ?_;refine al ?_;refine dl (r:=16) rfl rfl underlying3 underlying34 rfl ?_;refine kV (r:=((u*16 :Nat):Int)) rfl rfl rfl (by rw[IntKind.wrap_u64];omega) ?_;refine aC ?_;refine dl (r:=(((b.toNat ||| 32) - 87 :Nat):Int)) rfl rfl underlying5 underlying34 (by rw[IntKind.wrap_u64];omega) ?_;refine gH (r:=((u*16+((b.toNat ||| 32) - 87):Nat):Int)) rfl rfl rfl (by rw[IntKind.wrap_u64];omega) ?_;refine aR ?_;refine cA rfl rfl (cm aa) ?_;refine aq ?_;refine cA rfl rfl (cm aa) ?_;refine aq ?_;refine cA rfl rfl (cm aa) ?_;refine aq ?_;refine kj rfl rfl (cm aa) rfl ?_;refine ar ?_;refine fL rfl ((cm aa)) ?_;refine bw ?_;exact bg (2,u*16+((b.toNat ||| 32) - 87)) (.inr (.inr ⟨rfl,_,_,p,(yj aa aa aa),by dsimp only;omega⟩)) bm (su rfl rfl rfl rfl rfl rfl rfl rfl rfl) (λw' d=>d);refine ar ?_;refine l3 ab rfl rfl ?_;refine bH ?_;intro f c;exact⟨_,rfl,c.ext,.inr ⟨.inr (l6 aa (.inl aa)),rfl⟩⟩;have l:=a8 e
 refine aR ?_;refine l3 ab rfl rfl ?_;refine bH ?_;intro f c;exact⟨_,rfl,c.ext,.inr ⟨.inr (l6 aa (.inl aa)),rfl⟩⟩;refine al ?_;refine fL rfl ((cm aa)) ?_;refine w6 ?_;intro f c;exact⟨_,rfl,c.ext,.inl ⟨y,z,E.1,F.1,E.2,F.2,rfl⟩⟩
section
variable {P:Program} {n:Nat} {ops:Array Oper} {Q:cl} {rest:List Oper} {l:Fr} {H:World→Prop} {d:Nat} {ty:TypeId} {pos:String} {a6:Array Edge} {x:Operand} {cn du:TypeId}
theorem Uo (b:P.isIface cn=true) (ak:Nat.blt d n=true) (c:a_ l x=some .nilIface)
 (h:az P n ops Q rest ((d,.bool false)::l) H):az P n ops Q (⟨some d,.binOp .neq cn x (.const .nilIface) du,ty,pos,a6,none⟩::rest) l H:=
 da _ ak (λe w a=>by
  have f:e (.const .nilIface)= .nilIface:=a _ _ rfl
  have g:=run_neq_nil_nil_at (P:=P) w cn b
  simp[execOp,a x _ c,f,eqGuard_nil_constR,g]) h
theorem Up {t:TypeId} {p:Value} (b:P.isIface cn=true) (ak:Nat.blt d n=true) (c:a_ l x=some (.iface t p))
 (h:az P n ops Q rest ((d,.bool true)::l) H):az P n ops Q (⟨some d,.binOp .neq cn x (.const .nilIface) du,ty,pos,a6,none⟩::rest) l H:=
 da _ ak (λe w a=>by
  have f:e (.const .nilIface)= .nilIface:=a _ _ rfl
  have g:=run_neq_iface_nil (P:=P) w cn b t p
  have i:eqGuard .neq cn x (.const .nilIface) (.iface t p) .nilIface=pure ():=by rfl
  simp[execOp,a x _ c,f,i,g]) h
end
def Uq (v:Value):Prop:= ∃(x:Nat) (t:TypeId) (p:Value),v= .tuple #[.int .u64 (x:Int),.iface t p]
def Ur:Shelf.Ren:=⟨λ| 17=>451 | 21=>461 | 22=>462 | 23=>463 | 24=>464 | 25=>468 | 26=>469 | 27=>326 | 28=>387 | 29=>419 | 30=>438 | 31=>439 | 32=>440 | 33=>441 | 34=>454 | 35=>290 | 36=>455 | 37=>456 | 38=>457 | 39=>467 | 40=>377 | n=>n,λ| 0=>0 | 2=>2 | 3=>3 | 4=>4 | 5=>5 | 9=>9 | 20=>20 | 22=>34 | 24=>188 | 34=>452 | 36=>258 | 37=>62 | 39=>455 | 44=>463 | 47=>233 | 48=>466 | 50=>468 | 52=>439 | 55=>441 | 59=>448 | 60=>89 | 61=>449 | 65=>465 | 66=>428 | 67=>192 | n=>n,λ| 0=>5 | 1=>6 | 2=>2 | 3=>7 | 4=>0 | n=>n⟩
theorem Us:LaysPu.n17 prog Ur where
 mixed:=by kernel_rfl
 f17:=func451.trans (aX some ab)
 f21:=func461.trans (aX some ab)
 f22:=func462.trans (aX some ab)
 f23:=func463.trans (aX some ab)
 f24:=func464.trans (aX some ab)
 f25:=func468.trans (aX some ab)
 f26:=func469.trans (aX some ab)
 f27:=func326.trans (aX some ab)
 f28:=func387.trans (aX some ab)
 f29:=func419.trans (aX some ab)
 f30:=func438.trans (aX some ab)
 f31:=func439.trans (aX some ab)
 f32:=func440.trans (aX some ab)
 f33:=func441.trans (aX some ab)
 f34:=func454.trans (aX some ab)
 f35:=func290.trans (aX some ab)
 f36:=func455.trans (aX some ab)
 f37:=func456.trans (aX some ab)
 f38:=func457.trans (aX some ab)
 f39:=func467.trans (aX some ab)
 f40:=func377.trans (aX some ab)
 t0:=underlying0
 a0:=isAgg0
 z0:=sizeOf0
 v0:=zeroValue0
 i0:=by kernel_rfl
 t2:=underlying2
 a2:=isAgg2
 z2:=sizeOf2
 v2:=zeroValue2
 i2:=by kernel_rfl
 t3:=underlying3
 a3:=isAgg3
 z3:=sizeOf3
 v3:=zeroValue3
 i3:=by kernel_rfl
 t4:=underlying4
 a4:=isAgg4
 z4:=sizeOf4
 v4:=zeroValue4
 i4:=by kernel_rfl
 t5:=underlying5
 a5:=isAgg5
 z5:=sizeOf5
 v5:=zeroValue5
 i5:=by kernel_rfl
 t9:=underlying9
 a9:=isAgg9
 z9:=sizeOf9
 v9:=zeroValue9
 i9:=by kernel_rfl
 t20:=underlying20
 a20:=isAgg20
 z20:=sizeOf20
 v20:=zeroValue20
 i20:=by kernel_rfl
 t22:=underlying34
 a22:=isAgg34
 z22:=sizeOf34
 v22:=zeroValue34
 i22:=by kernel_rfl
 t24:=underlying188
 a24:=isAgg188
 z24:=sizeOf188
 v24:=zeroValue188
 i24:=by kernel_rfl
 t34:=underlying452
 a34:=isAgg452
 z34:=sizeOf452
 v34:=zeroValue452
 i34:=by kernel_rfl
 c34:=by kernel_rfl
 t36:=underlying258
 a36:=isAgg258
 z36:=sizeOf258
 v36:=zeroValue258
 i36:=by kernel_rfl
 t37:=underlying62
 a37:=isAgg62
 z37:=sizeOf62
 v37:=zeroValue62
 i37:=by kernel_rfl
 t39:=underlying455
 a39:=isAgg455
 z39:=sizeOf455
 v39:=zeroValue455
 i39:=by kernel_rfl
 t44:=underlying463
 a44:=isAgg463
 z44:=sizeOf463
 v44:=zeroValue463
 i44:=by kernel_rfl
 t47:=underlying233
 a47:=isAgg233
 z47:=sizeOf233
 v47:=zeroValue233
 i47:=by kernel_rfl
 t48:=underlying466
 a48:=isAgg466
 z48:=sizeOf466
 v48:=zeroValue466
 i48:=by kernel_rfl
 t50:=underlying468
 a50:=isAgg468
 z50:=sizeOf468
 v50:=zeroValue468
 i50:=by kernel_rfl
 t52:=underlying439
 a52:=isAgg439
 z52:=sizeOf439
 v52:=zeroValue439
 i52:=by kernel_rfl
 t55:=underlying441
 a55:=isAgg441
 z55:=sizeOf441
 v55:=zeroValue441
 i55:=by kernel_rfl
 t59:=underlying448
 a59:=isAgg448
 z59:=sizeOf448
 v59:=zeroValue448
 i59:=by kernel_rfl
 t60:=underlying89
 a60:=isAgg89
 z60:=sizeOf89
 v60:=zeroValue89
 i60:=by kernel_rfl
 t61:=underlying449
 a61:=isAgg449
 z61:=sizeOf449
 t65:=underlying465
 a65:=isAgg465
 z65:=sizeOf465
 v65:=zeroValue465
 i65:=by kernel_rfl
 t66:=underlying428
 a66:=isAgg428
 z66:=sizeOf428
 v66:=zeroValue428
 i66:=by kernel_rfl
 t67:=underlying192
 a67:=isAgg192
 z67:=sizeOf192
 v67:=zeroValue192
 i67:=by kernel_rfl
 g0:=by kernel_rfl
 m0:=by kernel_rfl
 g1:=by kernel_rfl
 m1:=by kernel_rfl
 g2:=by kernel_rfl
 m2:=by kernel_rfl
 g3:=by kernel_rfl
 m3:=by kernel_rfl
 g4:=by kernel_rfl
 m4:=by kernel_rfl
theorem Ut:ad prog 451:=ad.of func451 ab ab
theorem Uu:ad prog 452:=ad.of func452 ab ab
def IH (v:Value):Prop:= ∃t p,v= .iface t p
theorem Uv (w:World) (a:o8 w) (fn s:List UInt8) (x y:Int) (d:s.length≤1000000):
 Calls prog 451 [.string (bs fn),.string (bs s),.int .i64 x,.int .i64 y,.iface 452 (.int .i64 2)].toArray w (ng (λv _=>IH v) w):=by
 obtain⟨⟨t,p,b⟩,_⟩:=a;refine (AnyPu.strconv_toError_syntax Us (bs fn) (bs s) x y _ w (by rw[hz];omega) b (.inr ⟨t,p,rfl⟩)).mono ?_;rintro e w' ⟨N,rfl,_,_,c⟩;exact⟨_,rfl,Ext.r0 c,_,_,rfl⟩
def II (a b:UInt8) (v:Value):Prop:=
 (∃y z:Nat,y<16∧z<16∧cM a=(y:Int)∧cM b=(z:Int)∧v= .tuple #[.int .u64 ((16*y+z:Nat):Int),.nilIface])∨
 ((cM a= -1∨cM b= -1)∧Uq v)
theorem Uw (w:World) (f:o8 w) (a b:UInt8):Calls prog 433 [.string (bs [a,b]),.int .i64 16,.int .i64 8].toArray w (ng (λv _=>II a b v) w):=by
 refine aW func433 ntmps433 ?_;refine bo ?_;refine mx (R:=λ_ v _=>IG a b v) rfl Uu rfl (λw' _=>Un w' a b) (λA g v h i B C c=>?_);have d:Ext [] w g:=h.ext.dU i
 rcases c with ⟨y,z,j,k,l,m,rfl⟩ | ⟨n,rfl⟩
 refine bo ?_;refine Uo ab rfl rfl ?_;refine b5 ?_;intro o e;exact⟨_,rfl,d.dU e.ext,.inl ⟨y,z,j,k,l,m,rfl⟩⟩;refine bo ?_;refine Up ab rfl rfl ?_;refine aR ?_;refine mx (R:=λ_ v _=>IH v) rfl Ut rfl (λw' q=>Uv w' (f.ext (d.dU q.ext)) [80,97,114,115,101,85,105,110,116] [a,b] 16 8 (by show 2≤1000000;decide)) (λD r v s u E F c=>?_);obtain⟨t,p,rfl⟩:=c;have x:Ext [] w r:=(d.dU s.ext).dU u
 refine aC ?_;intro o e;exact⟨_,rfl,x.dU e.ext,.inr ⟨n,_,_,_,rfl⟩⟩
structure lp where
 kind:Int
 code:Int
 has:Bool
 text:List UInt8
abbrev lp.cells (x:lp):List Value:=[.int .i64 x.kind,.int .i64 x.code,.bool x.has,.string (bs x.text)]
def l7 (k:Int):lp:=⟨k,0,false,[]⟩
def nQ:lp:=l7 0
def nR (k:Int) (s:List UInt8):lp:=⟨k,0,false,s.take 256⟩
def gy (s:List UInt8):List UInt8:=if s.head?=some 45 then s.drop 1 else s
def codeOk (s:List UInt8):Bool:=decide (1≤(gy s).length) && decide ((gy s).length≤9) && (gy s).all o7
def codeF (s:List UInt8):Int × Bool:=if codeOk s=true then (if s.head?=some 45 then -(vn (gy s):Int) else (vn (gy s):Int),true) else (0,false)
def iM (s:List UInt8):Nat × UInt8:=
 if s.take 2=[92,92] then (2,92) else
 if s.take 2=[92,120]∧4≤s.length∧0≤cM (s.getD 2 0)∧0≤cM (s.getD 3 0) then (4,nP (s.getD 2 0) (s.getD 3 0)) else (1,s.headD 0)
theorem IJ (s:List UInt8):1≤(iM s).1:=by
 unfold iM;split
 exact Nat.le_succ 1;split
 exact (by decide: (1 :Nat)≤4);exact cd 1
theorem Ux {s:List UInt8} (h:s≠[]): (iM s).1≤s.length:=by
 have a:=tX.2 h
 unfold iM;split
 rename_i b;have:=aX List.length b
 rw[dn] at this
 simp at this
 omega
 split
 rename_i c;exact c.2.1
 exact a
def hQ (s:List UInt8):List UInt8:=if h:s=[] then [] else (iM s).2::hQ (s.drop (iM s).1)
termination_by s.length
decreasing_by
 have a:=tX.2 h
 have:=IJ s
 rw[fz];omega
theorem IK:hQ []=[]:=by rw[hQ,dif_pos rfl]
theorem IL {s:List UInt8} (h:s≠[]):hQ s=(iM s).2::hQ (s.drop (iM s).1):=by rw[hQ,dif_neg h]
theorem B9: ∀(m:Nat) (s:List UInt8),s.length≤m→(hQ s).length≤s.length
 | m,s,a=>by
  by_cases h:s=[]
  rw[h,IK];exact cd _
  have b:=tX.2 h
  have c:=IJ s
  cases m with
  | zero=>omega
  | succ m=>
   have:=B9 m (s.drop (iM s).1) (by rw[fz];omega)
   rw[fz] at this
   rw[IL h,eK];omega
def jE (s:List UInt8):List UInt8:=(fE 59 s).getD 0 []
def B_ (s:List UInt8):List UInt8:=(fE 59 s).getD 1 []
def Ca (s:List UInt8):List UInt8:=(fE 59 s).getD 2 []
def jm (s:List UInt8):Bool:=decide (3≤(fE 59 s).length)
def jF (s:List UInt8):List UInt8:=if 59∈s then (s.dropWhile (· ≠59)).drop 1 else []
def tu:List UInt8:=[67,119,100,61]
def rq:List UInt8:=[67,117,114,114,101,110,116,68,105,114,61]
def yk:List UInt8:=[83,101,116,77,97,114,107]
def j9 (c:Bool) (a b:List UInt8) (has:Bool):lp:=
 if a=[65] then l7 1 else if a=[66] then l7 2 else if a=[67] then l7 3 else
 if a=[68] then (if has=true then ⟨4,(codeF b).1,(codeF b).2,[]⟩ else l7 4) else
 if a=[69] then (if c=true∧has=true then nR 5 (hQ b) else nQ) else
 if a=[80] then (if c=true∧b.take 4=tu then nR 6 (hQ (b.drop 4)) else nQ) else nQ
def tv (rest:List UInt8):lp:=match o9 rest with
 | some p=>nR 6 p.2
 | none=>nQ
def oQ (rest:List UInt8):lp:=if rest=yk then l7 7 else if rest.take 11=rq then nR 6 (rest.drop 11) else nQ
def lq (s:List UInt8):lp:=
 if jE s=[49,51,51]∨jE s=[54,51,51] then j9 (decide (jE s=[54,51,51])) (B_ s) (Ca s) (jm s) else
 if jE s=[55] then tv (jF s) else
 if jE s=[49,51,51,55] then oQ (jF s) else
 if (jE s=[48]∨jE s=[50])∧59∈s then nR 8 (jF s) else nQ
theorem Uy (s:List UInt8): (lq s).text.length≤256:=by
 have e: ∀k,(l7 k).text.length≤256:=λk=>bN _
 have c: ∀k t,(nR k t).text.length≤256:=λk t=>by
  show (t.take 256).length≤256
  rw[dn];omega
 have d:nQ.text.length≤256:=bN _
 have g: ∀f a b h,(j9 f a b h).text.length≤256:=λf a b h=>by
  unfold j9;repeat' split
  all_goals first | exact e _ | exact c _ _ | exact d
 have i: ∀r,(tv r).text.length≤256:=λr=>by
  unfold tv;split
  ·exact c _ _
  ·exact d
 have j: ∀r,(oQ r).text.length≤256:=λr=>by
  unfold oQ;repeat' split
  all_goals first | exact e _ | exact c _ _
 unfold lq;repeat' split
 all_goals first | exact g _ _ _ _ | exact i _ | exact j _ | exact c _ _ | exact d
theorem Uz {s:List UInt8} (h:codeOk s=true):Lib.atoiAll s= .ok (codeF s).1:=by
 have j:=h
 unfold codeOk at h
 rw[dY,dY,e3,e3,iQ] at h
 obtain⟨⟨b,k⟩,ak⟩:=h;have m: ∀(l:List UInt8),(∀c∈l,o7 c=true)→ ∀a,l.foldl j8 a+1≤(a+1)*10 ^ l.length:=by
  intro l;induction l with
  | nil=>intro _ a;simp
  | cons c l n=>
   intro i a;have g:=aY (i c av)
   have:=n (λx o=>i x (by simp[o])) (j8 a c)
   rw[rL,eK,Nat.pow_succ];refine fp this ?_;have:j8 a c+1≤(a+1)*10:=by unfold j8;omega
   calc (j8 a c+1)*10 ^ l.length≤((a+1)*10)*10 ^ l.length:=kT _ this
    _=(a+1)*(10 ^ l.length*10):=by rw[Nat.mul_assoc,qC 10]
 have f:vn (gy s)≤999999999:=by
  have p:=m _ ak 0
  rw[←B5] at p
  have q:10 ^ (gy s).length≤10 ^ 9:=qD a1 k
  have r:10 ^ 9=1000000000:=by decide
  omega
 have ai:Lib.parseMag (gy s)= .ok (vn (gy s)):=by
  unfold Lib.parseMag;rw[ag (λe=>by rw[e] at b;simp at b),Io _ _ ak (by rw[←B5];omega),←B5]
 unfold codeF;rw[ax j];unfold gy at ai f b ak ⊢
 cases s with
 | nil=>simp at b
 | cons c l=>
  by_cases d: (c::l).head?=some 45
  rw[ax d] at ai f b ak ⊢
  have g:c=45:=by simpa using d
  subst g;rw[List.drop_one,List.tail_cons] at ai f ⊢
  rw[Lib.atoiAll_minus,ai];simp only[Lib.signed];rw[ag aa,ax d];rw[ag d] at ai f b ak ⊢
  have g:=aY (ak c av)
  rw[Lib.atoiAll_plain c l aa aa,ai];simp only[Lib.signless];rw[ag aa,ag d]
end
end Go.Proofs.YtkeokgcdnfjaaaaGreatDoor.Mq.Os
