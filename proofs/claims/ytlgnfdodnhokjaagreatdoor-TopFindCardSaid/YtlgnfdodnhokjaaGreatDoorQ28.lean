/- part 28 of the proof -/
import Derived.Test.YtlgnfdodnhokjaaGreatDoorQ27
import Derived.Shelf.Strings.Builder1
import Derived.Shelf.Pu.ToError
namespace Go.Proofs.YtlgnfdodnhokjaaGreatDoor.Mq.Os
open Go Go.RowKit Go.Proofs Tryz
section
def lx (c lo hi:UInt8):Bool:=decide (lo.toNat≤c.toNat) && decide (c.toNat≤hi.toNat)
def cP (c:UInt8):Int:=if lx c 48 57 then (c.toNat:Int) - 48 else if lx c 97 102 then (c.toNat:Int) - 97+10 else if lx c 65 70 then (c.toNat:Int) - 65+10 else -1
def n7 (a b:UInt8):UInt8:=UInt8.ofNat (16*(cP a).toNat+(cP b).toNat)
def fm:List UInt8→List UInt8 × Bool
 | []=>([],true)
 | [c]=>([c],decide (c≠37))
 | [c,d]=>(c::(fm [d]).1,decide (c≠37) && (fm [d]).2)
 | c::a::b::t=>
  if c≠37 then (c::(fm (a::b::t)).1,(fm (a::b::t)).2)
  else if 0≤cP a∧0≤cP b then (n7 a b::(fm t).1,(fm t).2)
  else (37::(fm (a::b::t)).1,false)
def qu (c:UInt8):UInt8:=if lx c 65 90 then UInt8.ofNat (c.toNat+32) else c
theorem yB (c:UInt8): -1≤cP c∧cP c≤15:=by
 unfold cP lx;have:=c.toNat_lt
 simp only[d4,e9];have a: (48 :UInt8).toNat=48:=rfl
 have b: (57 :UInt8).toNat=57:=rfl
 have d: (97 :UInt8).toNat=97:=rfl
 have e: (102 :UInt8).toNat=102:=rfl
 have f: (65 :UInt8).toNat=65:=rfl
 have g: (70 :UInt8).toNat=70:=rfl
 rw[a,b,d,e,f,g];split
 omega
 split
 omega
 split <;> omega
theorem U6 {p:UInt8→Prop} (h: ∀n:_root_.Fin 256,p (UInt8.ofNat n.val)) (c:UInt8):p c:=by
 have:=h ⟨c.toNat,c.toNat_lt⟩
 simpa using this
theorem Jj {c:UInt8} (h:c≠37) (t:List UInt8):fm (c::t)=(c::(fm t).1,(fm t).2):=by
 match t with
 | []=>simp[fm,h]
 | [d]=>simp[fm,h]
 | a::b::t=>rw[fm,aw h]
theorem Jk {a b:UInt8} (c:0≤cP a) (d:0≤cP b) (t:List UInt8):fm (37::a::b::t)=(n7 a b::(fm t).1,(fm t).2):=by
 rw[fm,ag av,aw ⟨c,d⟩]
theorem Ct {t:List UInt8} (h: ∀a b u,t=a::b::u→ ¬(0≤cP a∧0≤cP b)):fm (37::t)=(37::(fm t).1,false):=by
 match t,h with
 | [],_=>simp[fm]
 | [d],_=>simp[fm]
 | a::b::t,h=>rw[fm,ag av,ag (h a b t rfl)]
theorem yC: ∀(n:Nat) (s:List UInt8),s.length≤n→(fm s).1.length≤s.length
 | _,[],_=>by simp[fm]
 | 0,_::_,h=>by simp at h
 | n+1,c::t,h=>by
  simp only[eO] at h ⊢
  by_cases d:c=37
  subst d;by_cases f: ∃a b u,t=a::b::u∧0≤cP a∧0≤cP b
  obtain⟨a,b,u,rfl,i,j⟩:=f;rw[Jk i j];simp only[eO] at h ⊢
  have:=yC n u aa
  omega
  rw[Ct (λa b u e g=>f ⟨a,b,u,e,g.1,g.2⟩)];have:=yC n t aa
  simp only[eO];omega
  rw[Jj d];have:=yC n t aa
  simp only[eO];omega
def yD:List UInt8:=[102,105,108,101,58,47,47]
def yE (s:List UInt8):List UInt8:=s.map qu
def pq (s:List UInt8):Option (List UInt8 × List UInt8):=
 if 7≤s.length∧yE (s.take 7)=yD then
  (if Lib.indexByte (s.drop 7) 47<0 then none else some ((s.drop 7).take (Lib.indexByte (s.drop 7) 47).toNat,(fm ((s.drop 7).drop (Lib.indexByte (s.drop 7) 47).toNat)).1))
 else none
theorem rA (w:World) (c lo hi:UInt8):
 Calls prog 406 [.int .u8 (c.toNat:Int),.int .u8 (lo.toNat:Int),.int .u8 (hi.toNat:Int)].toArray w (λe w'=>e= .returned (.bool (lx c lo hi))∧w'=w):=by
 refine calls (n:=15) func406 rfl ntmps406 rfl ?_;refine bp ?_;refine aW 10 rfl (λa=>?_) (λa=>?_);have d:=aX a
 refine bx ?_;intro f b;exact⟨by unfold lx;rw[bX (show lo.toNat≤c.toNat by omega)];simp,b⟩;have d:=bd a
 refine aJ ?_;intro f b;exact⟨by unfold lx;rw[cg (show ¬lo.toNat≤c.toNat by omega)];rfl,b⟩
theorem Jl (w:World) (c:UInt8):
 Calls prog 455 [.int .u8 (c.toNat:Int)].toArray w (λe w'=>e= .returned (.int .i64 (cP c))∧w'=w):=by
 have h:=c.toNat_lt
 refine calls (n:=23) func455 rfl ntmps455 rfl ?_;refine aQ ?_;refine jj rfl xc rfl (λw' _=>rA w' c 48 57) ?_;refine ah ?_;refine b1 rfl (λa=>?_) (λa=>?_);have b:48≤c.toNat:=by simp[lx] at a;exact a.1
 refine ah ?_;refine gS rfl rfl rfl (r:=(c.toNat:Int) - 48) (nz aa aa) ?_;refine aK ?_;intro g d;exact⟨by rw[cP,aw a],d⟩;refine ah ?_;refine jj rfl xc rfl (λw' _=>rA w' c 97 102) ?_;refine ah ?_;refine b1 rfl (λb=>?_) (λb=>?_);have f:97≤c.toNat:=by simp[lx] at b;exact b.1
 refine ah ?_;refine gS rfl rfl rfl (r:=(c.toNat:Int) - 97) (nz aa aa) ?_;refine aJ ?_;intro g d;exact⟨by rw[cP,ag (by simp[a]),aw b],d⟩;refine ah ?_;refine jj rfl xc rfl (λw' _=>rA w' c 65 70) ?_;refine ah ?_;refine b1 rfl (λf=>?_) (λf=>?_);have i:65≤c.toNat:=by simp[lx] at f;exact f.1
 refine ah ?_;refine gS rfl rfl rfl (r:=(c.toNat:Int) - 65) (nz aa aa) ?_;refine aJ ?_;intro g d;exact⟨by rw[cP,ag (by simp[a]),ag (by simp[b]),aw f],d⟩;refine aQ ?_;intro g d;exact⟨by rw[cP,ag (by simp[a]),ag (by simp[b]),ag (by simp[f])],d⟩
theorem U7 (w:World) (s:List UInt8) (c:UInt8):
 Calls prog 343 [.string (bs s),.int .u8 (c.toNat:Int)].toArray w (λe w'=>e= .returned (.int .i64 (Lib.indexByte s c))∧w'=w):=by
 refine calls (n:=8) func343 rfl ntmps343 rfl ?_;refine aJ ?_;refine jj rfl yg rfl (λw' _=>yh w' s c) ?_;refine ay ?_;intro b a;exact⟨rfl,a⟩
def yF (a b:UInt8):Int:=IntKind.u8.wrap (((max 0 (cP a)).toNat*16 ||| (max 0 (cP b)).toNat:Nat):Int)
def tL (s:List UInt8) (i:Nat):Value:=if i+2<s.length then .tuple #[.int .u8 (yF (s.getD (i+1) 0) (s.getD (i+2) 0)),.bool (decide (0≤cP (s.getD (i+1) 0)) && decide (0≤cP (s.getD (i+2) 0)))] else .tuple #[.int .u8 0,.bool false]
theorem Jm (w:World) (s:List UInt8) (i:Nat) (u:s.length≤1000000) (hi:i<s.length):
 Calls prog 437 [.string (bs s),.int .i64 (i:Int)].toArray w (λe w'=>e= .returned (tL s i)∧Ext [] w w'):=by
 refine aV func437 ntmps437 ?_;refine dB ?_;refine aj (λt=>?_) (λt=>?_);refine aJ ?_;intro j c;exact⟨by rw[tL,ag aa],c.ext⟩;obtain⟨a,k⟩ : ∃a,s[i+1]? = some a:=⟨s[i+1]'aa,bE _⟩;obtain⟨b,l⟩ : ∃b,s[i+2]? = some b:=⟨s[i+2]'aa,bE _⟩;have v:=yB a
 have x:=yB b
 refine ah ?_;refine bF [0,1,2,3,4,5,6,7,8,9,10,11] 0 [[]] ?_;refine ah ?_;refine aL rfl (λd f=>(ij (q:=i+1) underlying9 rfl rfl rfl aa k aG)) ?_;refine aL rfl (λd f=>(jj rfl FE rfl (λw' _=>Jl w' a) aG)) ?_;refine ah ?_;refine aL rfl (λd f=>(ij (q:=i+2) underlying9 rfl rfl rfl aa l aG)) ?_;refine aL rfl (λd f=>(jj rfl FE rfl (λw' _=>Jl w' b) aG)) ?_;refine al ?_;have y: (max 0 (cP a)).toNat*16 ||| (max 0 (cP b)).toNat<2 ^ 8:=ox aa aa
 refine ah ?_;refine oN rfl rfl rfl aZ (r:=max 0 (cP a)*16) (by rw[show min (4 :Int).toNat IntKind.i64.bits=4 from rfl];exact wrap64 aa aa) ?_;refine aq ?_;refine mN rfl rfl rfl (r:=(((max 0 (cP a)).toNat*16 ||| (max 0 (cP b)).toNat:Nat):Int)) (or_eq (m:=(max 0 (cP a)).toNat*16) (n:=(max 0 (cP b)).toNat) aa aa (by show _<2 ^ 64;omega) (by show _<2 ^ 64;omega) (wrap64 aa aa)) ?_;refine dn rfl rfl underlying3 underlying5 (r:=yF a b) rfl ?_;refine ah ?_;have o:s.getD (i+1) 0=a:=by simp[List.getD,k]
 have p:s.getD (i+2) 0=b:=by simp[List.getD,l]
 refine aW 32 rfl (λg=>?_) (λg=>?_);have h:=aX g
 refine bp ?_;intro j c;exact⟨by rw[tL,aw aa,o,p,bX h,Bool.true_and],c.ext⟩;have h:=bd g
 refine aJ ?_;intro j c;exact⟨by rw[tL,aw aa,o,p,cg h,Bool.false_and],c.ext⟩
theorem U8 (w:World) (c:UInt8):
 Calls prog 405 [.int .u8 (c.toNat:Int)].toArray w (λe w'=>e= .returned (.string (bs [qu c]))∧Ext [] w w'):=by
 have j:=c.toNat_lt
 refine aV func405 ntmps405 ?_;refine aJ ?_;refine jj rfl xc rfl (λw' _=>rA w' c 65 90) ?_;refine aq ?_;refine b1 rfl (λa=>?_) (λa=>?_);have k:c.toNat≤90:=by simp[lx] at a;exact a.2
 refine aq ?_;refine hk rfl rfl rfl (r:=((qu c).toNat:Int)) (by rw[nz aa aa,qu,aw a];simp;omega) ?_;refine aC ?_;intro f g h;refine ji (s:=[qu c]) underlying51 underlying5 underlying9 rfl rfl (λw' b=>Rd.hp (E:=cz) (L:=[qu c]) b Has.head rfl aZ) ?_;refine ay ?_;intro i d;exact⟨rfl,d.ext⟩;refine al ?_;intro f g h;refine ji (s:=[c]) underlying51 underlying5 underlying9 rfl rfl (λw' b=>Rd.hp (E:=cz) (L:=[c]) b Has.head rfl aZ) ?_;refine ay ?_;intro i d;exact⟨by rw[qu,ag (by simp[a])],d.ext⟩
def tM:Shelf.Ren:=⟨λ| 166=>33 | 169=>34 | 240=>66 | 276=>107 | n=>n,λ| 0=>0 | 3=>3 | 4=>4 | 5=>5 | 9=>9 | 20=>20 | 37=>51 | 70=>75 | 72=>77 | 75=>80 | 80=>84 | 127=>155 | 164=>218 | n=>n,λn=>n⟩
theorem U9:Lays.n166 prog tM where
 mixed:=by kernel_rfl
 f166:=func33.trans (aU some ab)
 f240:=func66.trans (aU some ab)
 f276:=func107.trans (aU some ab)
 t0:=underlying0
 a0:=isAgg0
 z0:=sizeOf0
 v0:=zeroValue0
 t3:=underlying3
 a3:=isAgg3
 z3:=sizeOf3
 v3:=zeroValue3
 t4:=underlying4
 a4:=isAgg4
 z4:=sizeOf4
 v4:=zeroValue4
 t9:=underlying9
 a9:=isAgg9
 z9:=sizeOf9
 v9:=zeroValue9
 t20:=underlying20
 a20:=isAgg20
 z20:=sizeOf20
 v20:=zeroValue20
 t37:=underlying51
 a37:=isAgg51
 z37:=sizeOf51
 v37:=zeroValue51
 t70:=underlying75
 a70:=isAgg75
 z70:=sizeOf75
 v70:=zeroValue75
 t72:=underlying77
 a72:=isAgg77
 z72:=sizeOf77
 v72:=zeroValue77
 t75:=underlying80
 a75:=isAgg80
 z75:=sizeOf80
 v75:=zeroValue80
 t164:=underlying218
 a164:=isAgg218
 z164:=sizeOf218
 v164:=zeroValue218
theorem yG:Lays.n169 prog tM where
 mixed:=by kernel_rfl
 f169:=func34.trans (aU some ab)
 t0:=underlying0
 a0:=isAgg0
 z0:=sizeOf0
 v0:=zeroValue0
 t3:=underlying3
 a3:=isAgg3
 z3:=sizeOf3
 v3:=zeroValue3
 t9:=underlying9
 a9:=isAgg9
 z9:=sizeOf9
 v9:=zeroValue9
 t37:=underlying51
 a37:=isAgg51
 z37:=sizeOf51
 v37:=zeroValue51
 t70:=underlying75
 a70:=isAgg75
 z70:=sizeOf75
 v70:=zeroValue75
 t72:=underlying77
 a72:=isAgg77
 z72:=sizeOf77
 v72:=zeroValue77
 t127:=underlying155
 a127:=isAgg155
 z127:=sizeOf155
 v127:=zeroValue155
theorem vN:Builder.Extra prog tM where
 sizeBuilder:=by kernel_rfl
 liesBuilder:=by kernel_rfl
 t5:=underlying5
 a5:=isAgg5
 z5:=sizeOf5
 v5:=zeroValue5
 infoByte:=by kernel_rfl
 cellsByte:=by kernel_rfl
 sizeByte:=by kernel_rfl
 neB5:=by decide
theorem U_.ext {c b:Nat} {xs:List Value} {w w':World} {T e:TypeId} (h:Lib.IsBuilder T e c b xs w) (a:Ext [] w w'):Lib.IsBuilder T e c b xs w':=by
 have d: ∀p,Lib.BuilderAt T e c b p xs w→Lib.BuilderAt T e c b p xs w':=by
  intro p ai;have f:=ai.lt
  obtain⟨g,v,i,j,l⟩:=ai;refine⟨g,v,?_,j.kept (row:=none) ⟨a.os,a.tape,a.output,a.size,λk m _=>a.block k m av⟩ ?_,l⟩;rw[a.block b f av];exact i
  cases v.ownBlock <;> simp
 exact h.elim (λx=> .inl (d _ x)) (λx=> .inr (d _ x))
def tN (w:World) (b:Nat) (s:List UInt8) (w':World):Prop:=Ext [] w w'∧Lib.IsBuilder 77 5 w.heap.size b (Lib.byteCells s) w'
theorem Ext.vO {w w' b:World} (h:Ext [] w w') (a:Below w.heap.size w' b):Ext [] w b:=
 ⟨a.os.trans h.os,a.tape.trans h.tape,a.output.trans h.output,fp h.size a.size,λk c d=>(a.block k c).trans (h.block k c d)⟩
theorem Cc (w:World) (b:Nat) (s t:List UInt8) (w':World) (h:tN w b s w') (c:s.length+t.length≤140737488355328):
 Calls prog 33 [.pointer (some ⟨b,0,none⟩),.string (bs t)].toArray w' (λe a=>e= .returned (.tuple #[.int .i64 (t.length:Int),.nilIface])∧tN w b (s++t) a):=by
 have:=Any.Builder_WriteString U9 vN w.heap.size b (Lib.byteCells s) (bs t) w' h.2 (by rw[Lib.byteCells_length,hH];exact c) h.1.size
 refine Calls.mono this ?_;rintro e a ⟨rfl,d,f⟩;refine⟨by rw[hH],Ext.vO h.1 f,.inr ?_⟩;have e:Lib.byteCells (s++t)=Lib.byteCells s++Lib.strCells (bs t):=by rw[Lib.strCells_eq];simp[Lib.byteCells]
 rw[e];exact d
theorem Va (w:World) (b:Nat) (s:List UInt8) (w':World) (h:tN w b s w'):
 Calls prog 34 [.pointer (some ⟨b,0,none⟩)].toArray w' (λe a=>e= .returned (.string (bs s))∧Ext [] w a):=by
 by_cases d:s=[]
 subst d;refine Calls.mono (Any.Builder_String_empty yG vN w.heap.size b w' h.2 h.1.size) ?_;rintro e a ⟨rfl,c⟩;exact⟨rfl,Ext.vO h.1 c⟩;refine Calls.mono (Any.Builder_String yG vN w.heap.size b s w' h.2 d) ?_;rintro e a ⟨rfl,c⟩;exact⟨rfl,Ext.vO h.1 c⟩
theorem Vb:ad prog 33:=ad.of func33 ab ab
theorem Cu:ad prog 34:=ad.of func34 ab ab
theorem yi (w:World) (f:FuncId) (g:UInt8→List UInt8) (m:ad prog f) (n: ∀w' c,Calls prog f [.int .u8 (UInt8.toNat c:Int)].toArray w' (λe d=>e= .returned (.string (bs (g c)))∧Ext [] w' d)) (h: ∀c,(g c).length≤3) (s:List UInt8) (z:s.length≤1000000):
 Calls prog 404 [.string (bs s),.func (.func f) #[] #[]].toArray w (λe w'=>e= .returned (.string (bs (s.flatMap g)))∧Ext [] w w'):=by
 have o: ∀l:List UInt8,(l.flatMap g).length≤3*l.length:=by
  intro l;induction l with
  | nil=>simp
  | cons c l A=>have:=h c;simp only[jX,b6,eO];omega
 refine aV func404 ntmps404 ?_;refine aK ?_;intro b p B;refine aJ ?_;refine b2 (ι:=Nat) (λi=>[(0,.string (bs s)),(1,.func (.func f) #[] #[]),(5,.pointer (some ⟨b,0,none⟩)),(6,.int .i64 (i:Int))]) (λi=>tN w b ((s.take i).flatMap g)) (λi=>i≤s.length) (λi=>s.length - i) ?_ ?_;refine λw' a=>⟨0,bP _,(cj rfl rfl rfl rfl),a.ext,.inl ?_⟩
 have r:=a.has (c:=aD b [.pointer none,.slice none 0 0] 77) Has.head
 exact⟨p,.slice none 0 0,r,World.ownsRow_nil _ _ _ _,by simp[Value.ownBlock]⟩;rintro i hi;refine aJ ?_;refine aj (λt=>?_) (λt=>?_);obtain⟨c,j⟩ : ∃c,s[i]? = some c:=⟨s[i]'aa,bE _⟩;have u: (s.take (i+1)).flatMap g=(s.take i).flatMap g++g c:=by rw[fR,j,pB,un];simp
 have C:=o (s.take i)
 have D:=h c
 have E: (s.take i).length≤s.length:=by rw[dl];omega
 refine aK ?_;refine ij (q:=i) underlying9 rfl rfl rfl aa j ?_;refine Aw (v:= .string (bs (g c))) (H':=tN w b ((s.take i).flatMap g)) rfl rfl m rfl (λw' a=>?_) ?_;refine Calls.mono (n w' c) ?_;rintro e d ⟨rfl,k⟩;exact⟨rfl,a.1.dW k,U_.ext a.2 k⟩;refine sO (v:= .tuple #[.int .i64 ((g c).length:Int),.nilIface]) (H':=tN w b ((s.take (i+1)).flatMap g)) rfl Vb rfl (λw' a=>?_) ?_;rw[u];exact Cc w b _ (g c) w' a aa;refine aK ?_;exact bi (i+1) aa aa bR (λw' a=>a);have x:s.take i=s:=ev aa
 rw[x];refine aC ?_;refine sO (v:= .string (bs (s.flatMap g))) (H':=λw'=>Ext [] w w') rfl Cu rfl (λw' a=>Va w b _ w' a) ?_;refine ay ?_;intro F y;exact⟨rfl,y⟩
theorem Vc (w:World) (s:List UInt8) (a:s.length≤1000000):
 Calls prog 342 [.string (bs s)].toArray w (λe w'=>e= .returned (.string (bs (yE s)))∧Ext [] w w'):=by
 refine aV func342 ntmps342 ?_;refine aK ?_;refine ao rfl Pt rfl (λw' _=>yi w' 405 (λc=>[qu c]) Pu (λb c=>U8 b c) (λc=>by simp) s a) ?_;refine ay ?_;intro f d;refine⟨?_,d.ext⟩;rw[yE,List.map_eq_flatMap]
set_option maxRecDepth 100000 in
theorem Vd: ∀a b:_root_.Fin 16,a.val*16 ||| b.val=a.val*16+b.val:=by decide
theorem Ve {a b:UInt8} (f:0≤cP a) (g:0≤cP b):yF a b=((n7 a b).toNat:Int):=by
 have h:=yB a
 have i:=yB b
 have d:max 0 (cP a)=cP a:=by omega
 have e:max 0 (cP b)=cP b:=by omega
 have c:=Vd ⟨(cP a).toNat,aa⟩ ⟨(cP b).toNat,aa⟩
 dsimp only at c
 rw[yF,d,e,c,nz aa aa,n7];have: (UInt8.ofNat (16*(cP a).toNat+(cP b).toNat)).toNat=16*(cP a).toNat+(cP b).toNat:=by
  rw[qU];omega
 omega
theorem AI (w:World) (s:List UInt8) (p:s.length≤1000000):
 Calls prog 408 [.string (bs s)].toArray w (λe w'=>e= .returned (.tuple #[.string (bs (fm s).1),.bool (fm s).2])∧Ext [] w w'):=by
 refine aV func408 ntmps408 ?_;refine aC ?_;refine jZ 5 1 ?_;refine dB ?_;refine b2 (ι:=Nat × Value × List UInt8 × Bool) (λt=>[(0,.string (bs s)),(4,t.2.1),(5,.bool t.2.2.2),(6,.int .i64 (t.1 :Int))]) (λt=>af w [] [own 5 1 t.2.1 t.2.2.1.length (cz.all t.2.2.1)]) (λt=>t.1≤s.length∧t.2.2.1.length≤t.1∧fm s=(t.2.2.1++(fm (s.drop t.1)).1,t.2.2.2 && (fm (s.drop t.1)).2)) (λt=>s.length - t.1) ?_ ?_;exact λw' f=>⟨(0,.slice none 0 0,[],true),⟨bP _,bP _,by simp⟩,(cj rfl rfl rfl rfl),f⟩
 rintro⟨i,v,g,r⟩ ⟨hi,G,d⟩;dsimp only at hi G d ⊢
 refine aJ ?_;refine aj (λH=>?_) (λH=>?_);obtain⟨c,l⟩ : ∃c,s[i]? = some c:=⟨s[i]'aa,bE _⟩;have ak:s.drop i=c::s.drop (i+1):=by rw[lK aa,(cK.1 l).2]
 have j: ∀x:UInt8,cz.all (g++[x])=cz.all g++cz.enc x:=λx=>bA.hn cz g x
 rw[ak] at d
 refine aJ ?_;refine ij (q:=i) underlying9 rfl rfl rfl aa l ?_;refine ah ?_;refine aj (λz=>?_) (λz=>?_);have m:c≠37:=λe=>z (by rw[e];rfl)
 refine ay ?_;refine ij (q:=i) underlying9 rfl rfl rfl aa l ?_;refine ar ?_;intro X Y Z;refine gx ft rfl rfl rfl bj (λ_=>by exact cA) rfl (io rfl) (by simp only[maxLen];omega) aa (λI Za=>?_);refine bx ?_;rw[Jj m] at d
 refine bi (i+1,I,g++[c],r) ⟨by dsimp only;omega,by simp;omega,by rw[d];simp⟩ bm (cj rfl rfl rfl rfl) (λw' f=>?_);dsimp only;rw[j,b6];exact f;have m:c=37:=UInt8.toNat_inj.1 (by have: (37 :UInt8).toNat=37:=rfl;omega)
 subst m;refine aS ?_;by_cases A:i+2<s.length
 obtain⟨a,B⟩ : ∃a,s[i+1]? = some a:=⟨s[i+1]'aa,bE _⟩;obtain⟨b,C⟩ : ∃b,s[i+2]? = some b:=⟨s[i+2]'aa,bE _⟩;have J:s.getD (i+1) 0=a:=by simp[List.getD,B]
 have K:s.getD (i+2) 0=b:=by simp[List.getD,C]
 have D:s.drop (i+1)=a::b::s.drop (i+3):=by rw[lK aa,(cK.1 B).2,lK aa,(cK.1 C).2]
 refine ah ?_;refine ao rfl FD rfl (λw' _=>Jm w' s i p aa) ?_;rw[tL,aw A,J,K];refine bx ?_;refine b1 rfl (λh=>?_) (λh=>?_);simp only[d4,e9] at h
 rw[D,Jk h.1 h.2] at d
 rw[Ve h.1 h.2];refine ay ?_;intro Zb Zc Zd;refine gx ft rfl rfl rfl bj (λ_=>by exact cA) rfl (io rfl) (by simp only[maxLen];omega) aa (λL Ze=>?_);refine eL ?_;refine bi (i+3,L,g++[n7 a b],r) ⟨by dsimp only;omega,by simp;omega,by rw[d];simp⟩ bm (Sub.cons bc (Sub.cons bc (Sub.cons bc (Sub.cons (by simp[look];omega) Sub.nil)))) (λw' f=>?_);dsimp only;rw[j,b6];exact f;simp only[um,e2] at h
 have n: ∀x y u,s.drop (i+1)=x::y::u→ ¬(0≤cP x∧0≤cP y):=λx y u e=>by
  rw[D] at e
  simp only[r4] at e
  obtain⟨rfl,rfl,_⟩:=e;omega
 rw[Ct n] at d
 refine al ?_;intro M N O;refine gx ft rfl rfl rfl bj (λ_=>by exact cA) rfl (io rfl) (by simp only[maxLen];omega) aa (λo P=>?_);refine bH ?_;refine bi (i+1,o,g++[37],false) ⟨by dsimp only;omega,by simp;omega,by rw[d];simp⟩ bm (cj rfl rfl rfl rfl) (λw' f=>?_);dsimp only;rw[j,b6];exact f;have n: ∀x y u,s.drop (i+1)=x::y::u→ ¬(0≤cP x∧0≤cP y):=λx y u e=>by
  have:=aU List.length e
  simp at this
  omega
 rw[Ct n] at d
 refine ah ?_;refine ao rfl FD rfl (λw' _=>Jm w' s i p aa) ?_;rw[tL,ag A];refine eL ?_;intro M N O;refine gx ft rfl rfl rfl bj (λ_=>by exact cA) rfl (io rfl) (by simp only[maxLen];omega) aa (λo P=>?_);refine bH ?_;refine bi (i+1,o,g++[37],false) ⟨by dsimp only;omega,by simp;omega,by rw[d];simp⟩ bm (cj rfl rfl rfl rfl) (λw' f=>?_);dsimp only;rw[j,b6];exact f;have Q:i=s.length:=by omega
 refine hE (v:=v) Has.head (λR S T Zf Zg Zh Zi=>?_);subst T;refine aK ?_;refine ji (s:=g) (F:=λk=>(Value.slice R g.length S).ownBlock=some k) underlying51 underlying5 underlying9 rfl rfl (λw' f=>?_) ?_;obtain⟨Zj,Zk,U,V⟩:=Rd.gf (E:=cz) (f.has Has.head) rfl;cases U
 exact V;refine aC ?_;intro Zl W;subst Q;rw[List.drop_length] at d
 refine⟨?_,W.ext⟩;rw[d];simp[fm]
theorem Vf (w:World) (s:List UInt8) (a:s.length≤1000000):
 Calls prog 344 [.string (bs s)].toArray w (λe w'=>e= .returned (.string (bs (fm s).1))∧Ext [] w w'):=by
 refine aV func344 ntmps344 ?_;refine aK ?_;refine ao rfl Pv rfl (λw' _=>AI w' s a) ?_;refine cF ?_;intro c b;exact⟨rfl,b.ext⟩
def pr (s:List UInt8):Value:=match pq s with
 | some p=> .tuple #[.string (bs p.1),.string (bs p.2),.int .i64 0]
 | none=> .tuple #[.string (bs []),.string (bs []),.int .i64 4]
theorem Vg (w:World) (s:List UInt8) (n:s.length≤1000000):
 Calls prog 264 [.string (bs s)].toArray w (λe w'=>e= .returned (pr s)∧Ext [] w w'):=by
 refine aV func264 ntmps264 ?_;refine b7 ?_;refine aW 10 rfl (λb=>?_) (λb=>?_);have j:=aX b
 refine eR ?_;intro c a;exact⟨by rw[pr,pq,ag aa],a.ext⟩;have j:=bd b
 have o: (s.take 7).length=7:=by rw[dl];omega
 refine ah ?_;refine pJ 7 underlying9 rfl rfl rfl bc aa ?_;refine ar ?_;refine ao rfl OX rfl (λw' _=>Vc w' (s.take 7) aa) ?_;refine ar ?_;refine Md rfl rfl rfl ?_;refine ah ?_;refine aj (λd=>?_) (λd=>?_);refine aQ ?_;intro c a;exact⟨by rw[pr,pq,ag (by rintro⟨_,h⟩;exact d (by simpa [yD] using h))],a.ext⟩;have g:yE (s.take 7)=yD:=by simpa [yD] using d
 refine ay ?_;refine pI 7 underlying9 rfl rfl rfl bc aa ?_;refine al ?_;refine jj rfl OY rfl (λw' _=>U7 w' (s.drop 7) 47) ?_;refine aQ ?_;refine aj (λf=>?_) (λf=>?_);refine aQ ?_;intro c a;exact⟨by rw[pr,pq,aw ⟨aa,g⟩,aw f],a.ext⟩;rcases qk (s.drop 7) 47 with ⟨_,h⟩ | ⟨pre,p,k,q,i⟩
 omega
 have r:pre.length≤(s.drop 7).length:=by rw[k];simp
 have t: (s.drop 7).length≤1000000:=by rw[fJ];omega
 rw[i];refine ah ?_;refine bF [0,1,2,3,4,5] 1 [[(6,false,[7,8,9])]] ?_;refine aq ?_;refine aL rfl (λl m=>(pJ pre.length underlying9 rfl rfl rfl bc aa aG)) ?_;refine aq ?_;refine aL rfl (λl m=>(pI pre.length underlying9 rfl rfl rfl bc aa aG)) ?_;refine aq ?_;refine ao rfl OZ rfl (λw' _=>Vf w' ((s.drop 7).drop pre.length) (by rw[fJ];omega)) ?_;refine aJ ?_;intro c a;refine⟨?_,a.ext⟩;rw[pr,pq,aw ⟨aa,g⟩,ag f,i];rfl
def tO (s t:List UInt8):Bool:=decide (t.length≤s.length) && decide (s.take t.length=t)
theorem Vh:ad prog 409:=ad.of func409 ab ab
theorem Vi (w:World) (s t:List UInt8):
 Calls prog 409 [.string (bs s),.string (bs t)].toArray w (λe w'=>e= .returned (.bool (tO s t))∧w'=w):=by
 refine calls (n:=18) func409 rfl ntmps409 rfl ?_;refine bH ?_;refine aW 10 rfl (λa=>?_) (λa=>?_);have c:=aX a
 refine aC ?_;refine pJ t.length underlying9 rfl rfl rfl bc aa ?_;refine aQ ?_;intro d b;exact⟨by rw[tO,bX (by omega:t.length≤s.length),Bool.true_and],b⟩;have c:=bd a
 refine bx ?_;intro d b;exact⟨by rw[tO,cg (by omega: ¬t.length≤s.length),Bool.false_and],b⟩
theorem Jn (w:World) (s t:List UInt8):
 Calls prog 402 [.string (bs s),.string (bs t)].toArray w (λe w'=>e= .returned (.bool (tO s t))∧w'=w):=by
 refine calls (n:=8) func402 rfl ntmps402 rfl ?_;refine aJ ?_;refine jj rfl Vh rfl (λw' _=>Vi w' s t) ?_;refine ay ?_;intro b a;exact⟨rfl,a⟩
section
variable {P:Program} {n:Nat} {ops:Array Oper} {Q:cq} {rest:List Oper} {l:Fr} {H:World→Prop} {d:Nat} {ty:TypeId} {pos:String} {a7:Array Edge} {x:Operand}
theorem mg {t:TypeId} {v:Value} (a:P.concrete t=true) (ak:Nat.blt d n=true) (b:ba l x=some v) (h:az P n ops Q rest ((d,.iface t v)::l) H):
 az P n ops Q (⟨some d,.makeInterface t x,ty,pos,a7,none⟩::rest) l H:=
 dd _ ak (λf w c=>by
  have e:=run_makeInterface (P:=P) w t v a
  simp[execOp,c x _ b,e]) h
end
theorem mh:ad prog 467:=ad.of func467 ab ab
theorem mi (w:World) (c:UInt8):Calls prog 467 [.int .u8 (c.toNat:Int)].toArray w (λe w'=>e= .returned (.int .u8 ((c.toNat ||| 32 :Nat):Int))∧Ext [] w w'):=by
 have a:=UInt8.toNat_lt c
 have d:c.toNat ||| 32<2 ^ 8:=ox a aZ
 refine aV func467 ntmps467 ?_;refine aK ?_;refine mN (r:=((c.toNat ||| 32 :Nat):Int)) rfl rfl rfl (or_eq (m:=c.toNat) (n:=32) rfl rfl (by simp only[IntKind.bits];omega) aZ (nz aa aa)) ?_;refine ay ?_;intro f b;exact⟨rfl,b.ext⟩
theorem Jo: ∀c:UInt8,¬(48≤c.toNat∧c.toNat≤57)→((97≤(c.toNat ||| 32)∧(c.toNat ||| 32)≤122)∧(c.toNat ||| 32) - 87<16→cP c=(((c.toNat ||| 32) - 87 :Nat):Int))∧(¬(97≤(c.toNat ||| 32)∧(c.toNat ||| 32)≤122)∨16≤(c.toNat ||| 32) - 87→cP c= -1):=by
 refine U6 ?_;decide+kernel
def vP (c:UInt8) (y:Nat):Prop:=y<16∧cP c=(y:Int)
theorem mj {c:UInt8} (a: ¬(48≤c.toNat∧c.toNat≤57)) (h: ¬(97≤(c.toNat ||| 32)∧(c.toNat ||| 32)≤122)∨16≤(c.toNat ||| 32) - 87):cP c= -1:=(Jo c a).2 h
theorem Jp {c:UInt8} (h:48≤c.toNat∧c.toNat≤57):vP c (c.toNat - 48):=by
 refine⟨aa,?_⟩;have a: (48 :UInt8).toNat=48:=rfl
 have b: (57 :UInt8).toNat=57:=rfl
 unfold cP lx;rw[aw (by rw[a,b,bX h.1,bX h.2];rfl)];omega
theorem yH {c:UInt8} (a: ¬(48≤c.toNat∧c.toNat≤57)) (b:97≤(c.toNat ||| 32)∧(c.toNat ||| 32)≤122) (h: (c.toNat ||| 32) - 87<16):vP c ((c.toNat ||| 32) - 87):=⟨h,(Jo c a).1 ⟨b,h⟩⟩
theorem Jq {b:World} {S:List Nat} {cs:List Chunk} {w:World} (h:af b S cs w) {g e:Nat} {L:List UInt8} (c:Has cs (jw g e (cz.all L))) {k:Nat} {a:UInt8} (d:L[k]? = some a):w.cell? ((⟨g,0,none⟩ :Addr).add (k*1))=some (.int .u8 (a.toNat:Int)):=by
 rw[Addr.add_lit,dE];exact af.Jg h c (cz.lQ (j:=0) d rfl)
def Jr (a b:UInt8) (v:Value):Prop:=
 (∃y z:Nat,y<16∧z<16∧cP a=(y:Int)∧cP b=(z:Int)∧v= .tuple #[.int .u64 ((16*y+z:Nat):Int),.nilIface])∨
 ((cP a= -1∨cP b= -1)∧v= .tuple #[.int .u64 0,.iface 450 (.int .i64 2)])
def Vj (a b:UInt8) (i u:Nat):Prop:=(i=0∧u=0)∨(i=1∧vP a u)∨(i=2∧ ∃y z,vP a y∧vP b z∧u=16*y+z)
theorem Vk (w:World) (a b:UInt8):Calls prog 454 [.string (bs [a,b]),.int .i64 16,.int .i64 8].toArray w (nx (λv _=>Jr a b v) w):=by
 have H:=UInt8.toNat_lt a
 have I:=UInt8.toNat_lt b
 refine aV func454 ntmps454 ?_;refine bH ?_;refine fA rfl ((cg av)) ?_;refine P0 ?_;refine uW ?_;refine dn (r:=8) rfl rfl underlying3 underlying268 rfl ?_;refine oN (r:=256) rfl rfl rfl aZ rfl ?_;refine gS (r:=255) rfl rfl rfl rfl ?_;refine ey ?_;refine Ji (s:=[a,b]) underlying9 underlying51 underlying5 rfl rfl (by show 2≤1000000;decide) (λcd x J K L M=>?_);refine ay ?_;refine b2 (ι:=Nat × Nat) (λt=>[(1,.int .i64 16),(8,.bool false),(10,.int .u64 1152921504606846976),(11,.int .u64 255),(12,.bool false),(13,.int .u64 (t.2 :Int)),(99,.slice (some ⟨cd,0,none⟩) 2 x),(100,.int .i64 2),(101,.int .i64 (t.1 :Int))]) (λ_=>af w [] [jw cd 5 (cz.all [a,b])]) (λt=>Vj a b t.1 t.2) (λt=>2 - t.1) ?_ ?_;exact λw' d=>⟨(0,0),.inl ⟨rfl,rfl⟩,(uV rfl rfl rfl rfl rfl rfl rfl rfl rfl),d⟩
 rintro⟨i,u⟩ D;dsimp only at D ⊢
 rcases D with ⟨rfl,rfl⟩ | ⟨rfl,p⟩ | ⟨rfl,y,z,E,F,rfl⟩
 have G:a.toNat ||| 32<256:=ox (n:=8) aa aZ
 refine al ?_;refine eE rfl ((bX aa)) ?_;refine al ?_;refine bC (q:=0) ft rfl rfl rfl bc aa aa ?_;refine a_ zA rfl rfl (λw' d=>Jq d Has.head (k:=0) (a:=a) rfl) ?_;refine bp ?_;refine oF ([(1,.int .i64 16),(8,.bool false),(10,.int .u64 1152921504606846976),(11,.int .u64 255),(12,.bool false),(13,.int .u64 ((0 :Nat):Int)),(99,.slice (some ⟨cd,0,none⟩) 2 x),(100,.int .i64 2),(101,.int .i64 ((0 :Nat):Int)),(15,.int .u8 (a.toNat:Int)),(106,.bool false)]) (af w [] [jw cd 5 (cz.all [a,b])]) ?_ ?_;refine aS ?_;refine aW 109 rfl (λg=>?_) (λg=>?_);have A:=aX g
 refine ay ?_;exact gy (Sub.cons rfl (mO rfl rfl rfl rfl rfl rfl rfl rfl rfl rfl)) (λ_ h=>h);have A:=bd g
 refine aS ?_;exact gy (Sub.cons rfl (mO rfl rfl rfl rfl rfl rfl rfl rfl rfl rfl)) (λ_ h=>h);refine aC ?_;refine aW 115 rfl (λj=>?_) (λj=>?_);have B:=aX j
 refine aK ?_;refine aj (λC=>?_) (λC=>?_);refine aq ?_;refine gS (r:=((a.toNat - 48 :Nat):Int)) rfl rfl rfl (by rw[IntKind.wrap_u8];omega) ?_;refine aJ ?_;refine dn (r:=16) rfl rfl underlying3 underlying5 rfl ?_;refine ah ?_;refine fA rfl ((cg aa)) ?_;refine aQ ?_;refine fA rfl ((cg aa)) ?_;refine al ?_;refine dn (r:=16) rfl rfl underlying3 underlying54 rfl ?_;refine k3 (r:=(((0 :Nat)*16 :Nat):Int)) rfl rfl rfl (by rw[IntKind.wrap_u64];omega) ?_;refine aC ?_;refine dn (r:=((a.toNat - 48 :Nat):Int)) rfl rfl underlying5 underlying54 (by rw[IntKind.wrap_u64];omega) ?_;refine hk (r:=(((0 :Nat)*16+(a.toNat - 48):Nat):Int)) rfl rfl rfl (by rw[IntKind.wrap_u64];omega) ?_;refine aQ ?_;refine cC rfl rfl (cg aa) ?_;refine ar ?_;refine cC rfl rfl (cg aa) ?_;refine ar ?_;refine cC rfl rfl (cg aa) ?_;refine ar ?_;refine kt rfl rfl (cg aa) rfl ?_;refine aq ?_;refine fA rfl ((cg aa)) ?_;refine bx ?_;exact bi (1,0*16+(a.toNat - 48)) (.inr (.inl ⟨rfl,by rw[qT,dE];exact (Jp aa)⟩)) bm bR (λw' d=>d);refine ah ?_;refine ao rfl mh rfl (λw' _=>mi w' a) ?_;refine aq ?_;refine aW 125 rfl (λe=>?_) (λe=>?_);have l:=aX e
 refine ah ?_;refine ao rfl mh rfl (λw' _=>mi w' a) ?_;refine al ?_;refine aj (λm=>?_) (λm=>?_);refine aq ?_;refine ao rfl mh rfl (λw' _=>mi w' a) ?_;refine gS (r:=(((a.toNat ||| 32) - 97 :Nat):Int)) rfl rfl rfl (by rw[IntKind.wrap_u8];omega) ?_;refine hk (r:=(((a.toNat ||| 32) - 87 :Nat):Int)) rfl rfl rfl (by rw[IntKind.wrap_u8];omega) ?_;refine aJ ?_;refine dn (r:=16) rfl rfl underlying3 underlying5 rfl ?_;refine ah ?_;refine aj (λo=>?_) (λo=>?_);refine aq ?_;refine mg ab rfl rfl ?_;refine bx ?_;intro f c;exact⟨_,rfl,c.ext,.inr ⟨.inl (mj aa (.inr aa)),rfl⟩⟩;refine aQ ?_;refine fA rfl ((cg aa)) ?_;refine al ?_;refine dn (r:=16) rfl rfl underlying3 underlying54 rfl ?_;refine k3 (r:=(((0 :Nat)*16 :Nat):Int)) rfl rfl rfl (by rw[IntKind.wrap_u64];omega) ?_;refine aC ?_;refine dn (r:=(((a.toNat ||| 32) - 87 :Nat):Int)) rfl rfl underlying5 underlying54 (by rw[IntKind.wrap_u64];omega) ?_;refine hk (r:=(((0 :Nat)*16+((a.toNat ||| 32) - 87):Nat):Int)) rfl rfl rfl (by rw[IntKind.wrap_u64];omega) ?_;refine aQ ?_;refine cC rfl rfl (cg aa) ?_;refine ar ?_;refine cC rfl rfl (cg aa) ?_;refine ar ?_;refine cC rfl rfl (cg aa) ?_;refine ar ?_;refine kt rfl rfl (cg aa) rfl ?_;refine aq ?_;refine fA rfl ((cg aa)) ?_;refine bx ?_;exact bi (1,0*16+((a.toNat ||| 32) - 87)) (.inr (.inl ⟨rfl,by rw[qT,dE];exact (yH aa aa aa)⟩)) bm bR (λw' d=>d);refine aq ?_;refine mg ab rfl rfl ?_;refine bH ?_;intro f c;exact⟨_,rfl,c.ext,.inr ⟨.inl (mj aa (.inl aa)),rfl⟩⟩;have l:=bd e
 refine aQ ?_;refine mg ab rfl rfl ?_;refine bH ?_;intro f c;exact⟨_,rfl,c.ext,.inr ⟨.inl (mj aa (.inl aa)),rfl⟩⟩;have B:=bd j
 refine aQ ?_;refine ao rfl mh rfl (λw' _=>mi w' a) ?_;refine aq ?_;refine aW 125 rfl (λe=>?_) (λe=>?_);have l:=aX e
 refine ah ?_;refine ao rfl mh rfl (λw' _=>mi w' a) ?_;refine al ?_;refine aj (λm=>?_) (λm=>?_);refine aq ?_;refine ao rfl mh rfl (λw' _=>mi w' a) ?_;refine gS (r:=(((a.toNat ||| 32) - 97 :Nat):Int)) rfl rfl rfl (by rw[IntKind.wrap_u8];omega) ?_;refine hk (r:=(((a.toNat ||| 32) - 87 :Nat):Int)) rfl rfl rfl (by rw[IntKind.wrap_u8];omega) ?_;refine aJ ?_;refine dn (r:=16) rfl rfl underlying3 underlying5 rfl ?_;refine ah ?_;refine aj (λo=>?_) (λo=>?_);refine aq ?_;refine mg ab rfl rfl ?_;refine bx ?_;intro f c;exact⟨_,rfl,c.ext,.inr ⟨.inl (mj aa (.inr aa)),rfl⟩⟩;refine aQ ?_;refine fA rfl ((cg aa)) ?_;refine al ?_;refine dn (r:=16) rfl rfl underlying3 underlying54 rfl ?_;refine k3 (r:=(((0 :Nat)*16 :Nat):Int)) rfl rfl rfl (by rw[IntKind.wrap_u64];omega) ?_;refine aC ?_;refine dn (r:=(((a.toNat ||| 32) - 87 :Nat):Int)) rfl rfl underlying5 underlying54 (by rw[IntKind.wrap_u64];omega) ?_;refine hk (r:=(((0 :Nat)*16+((a.toNat ||| 32) - 87):Nat):Int)) rfl rfl rfl (by rw[IntKind.wrap_u64];omega) ?_;refine aQ ?_;refine cC rfl rfl (cg aa) ?_;refine ar ?_;refine cC rfl rfl (cg aa) ?_;refine ar ?_;refine cC rfl rfl (cg aa) ?_;refine ar ?_;refine kt rfl rfl (cg aa) rfl ?_;refine aq ?_;refine fA rfl ((cg aa)) ?_;refine bx ?_;exact bi (1,0*16+((a.toNat ||| 32) - 87)) (.inr (.inl ⟨rfl,by rw[qT,dE];exact (yH aa aa aa)⟩)) bm bR (λw' d=>d);refine aq ?_;refine mg ab rfl rfl ?_;refine bH ?_;intro f c;exact⟨_,rfl,c.ext,.inr ⟨.inl (mj aa (.inl aa)),rfl⟩⟩;have l:=bd e
 refine aQ ?_;refine mg ab rfl rfl ?_;refine bH ?_;intro f c;exact⟨_,rfl,c.ext,.inr ⟨.inl (mj aa (.inl aa)),rfl⟩⟩;have N:=p.1
 have G:b.toNat ||| 32<256:=ox (n:=8) aa aZ
 refine al ?_;refine eE rfl ((bX aa)) ?_;refine al ?_;refine bC (q:=1) ft rfl rfl rfl bc aa aa ?_;refine a_ zA rfl rfl (λw' d=>Jq d Has.head (k:=1) (a:=b) rfl) ?_;refine bp ?_;refine oF ([(1,.int .i64 16),(8,.bool false),(10,.int .u64 1152921504606846976),(11,.int .u64 255),(12,.bool false),(13,.int .u64 ((u:Nat):Int)),(99,.slice (some ⟨cd,0,none⟩) 2 x),(100,.int .i64 2),(101,.int .i64 ((1 :Nat):Int)),(15,.int .u8 (b.toNat:Int)),(106,.bool false)]) (af w [] [jw cd 5 (cz.all [a,b])]) ?_ ?_;refine aS ?_;refine aW 109 rfl (λg=>?_) (λg=>?_);have A:=aX g
 refine ay ?_;exact gy (Sub.cons rfl (mO rfl rfl rfl rfl rfl rfl rfl rfl rfl rfl)) (λ_ h=>h);have A:=bd g
 refine aS ?_;exact gy (Sub.cons rfl (mO rfl rfl rfl rfl rfl rfl rfl rfl rfl rfl)) (λ_ h=>h);refine aC ?_;refine aW 115 rfl (λj=>?_) (λj=>?_);have B:=aX j
 refine aK ?_;refine aj (λC=>?_) (λC=>?_);refine aq ?_;refine gS (r:=((b.toNat - 48 :Nat):Int)) rfl rfl rfl (by rw[IntKind.wrap_u8];omega) ?_;refine aJ ?_;refine dn (r:=16) rfl rfl underlying3 underlying5 rfl ?_;refine ah ?_;refine fA rfl ((cg aa)) ?_;refine aQ ?_;refine fA rfl ((cg aa)) ?_;refine al ?_;refine dn (r:=16) rfl rfl underlying3 underlying54 rfl ?_;refine k3 (r:=((u*16 :Nat):Int)) rfl rfl rfl (by rw[IntKind.wrap_u64];omega) ?_;refine aC ?_;refine dn (r:=((b.toNat - 48 :Nat):Int)) rfl rfl underlying5 underlying54 (by rw[IntKind.wrap_u64];omega) ?_;refine hk (r:=((u*16+(b.toNat - 48):Nat):Int)) rfl rfl rfl (by rw[IntKind.wrap_u64];omega) ?_;refine aQ ?_;refine cC rfl rfl (cg aa) ?_;refine ar ?_;refine cC rfl rfl (cg aa) ?_;refine ar ?_;refine cC rfl rfl (cg aa) ?_;refine ar ?_;refine kt rfl rfl (cg aa) rfl ?_;refine aq ?_;refine fA rfl ((cg aa)) ?_;refine bx ?_;exact bi (2,u*16+(b.toNat - 48)) (.inr (.inr ⟨rfl,_,_,p,(Jp aa),by dsimp only;omega⟩)) bm (uV rfl rfl rfl rfl rfl rfl rfl rfl rfl) (λw' d=>d);refine ah ?_;refine ao rfl mh rfl (λw' _=>mi w' b) ?_;refine aq ?_;refine aW 125 rfl (λe=>?_) (λe=>?_);have l:=aX e
 refine ah ?_;refine ao rfl mh rfl (λw' _=>mi w' b) ?_;refine al ?_;refine aj (λm=>?_) (λm=>?_);refine aq ?_;refine ao rfl mh rfl (λw' _=>mi w' b) ?_;refine gS (r:=(((b.toNat ||| 32) - 97 :Nat):Int)) rfl rfl rfl (by rw[IntKind.wrap_u8];omega) ?_;refine hk (r:=(((b.toNat ||| 32) - 87 :Nat):Int)) rfl rfl rfl (by rw[IntKind.wrap_u8];omega) ?_;refine aJ ?_;refine dn (r:=16) rfl rfl underlying3 underlying5 rfl ?_;refine ah ?_;refine aj (λo=>?_) (λo=>?_);refine aq ?_;refine mg ab rfl rfl ?_;refine bx ?_;intro f c;exact⟨_,rfl,c.ext,.inr ⟨.inr (mj aa (.inr aa)),rfl⟩⟩;refine aQ ?_;refine fA rfl ((cg aa)) ?_;refine al ?_;refine dn (r:=16) rfl rfl underlying3 underlying54 rfl ?_;refine k3 (r:=((u*16 :Nat):Int)) rfl rfl rfl (by rw[IntKind.wrap_u64];omega) ?_;refine aC ?_;refine dn (r:=(((b.toNat ||| 32) - 87 :Nat):Int)) rfl rfl underlying5 underlying54 (by rw[IntKind.wrap_u64];omega) ?_;refine hk (r:=((u*16+((b.toNat ||| 32) - 87):Nat):Int)) rfl rfl rfl (by rw[IntKind.wrap_u64];omega) ?_;refine aQ ?_;refine cC rfl rfl (cg aa) ?_;refine ar ?_;refine cC rfl rfl (cg aa) ?_;refine ar ?_;refine cC rfl rfl (cg aa) ?_;refine ar ?_;refine kt rfl rfl (cg aa) rfl ?_;refine aq ?_;refine fA rfl ((cg aa)) ?_;refine bx ?_;exact bi (2,u*16+((b.toNat ||| 32) - 87)) (.inr (.inr ⟨rfl,_,_,p,(yH aa aa aa),by dsimp only;omega⟩)) bm (uV rfl rfl rfl rfl rfl rfl rfl rfl rfl) (λw' d=>d);refine aq ?_;refine mg ab rfl rfl ?_;refine bH ?_;intro f c;exact⟨_,rfl,c.ext,.inr ⟨.inr (mj aa (.inl aa)),rfl⟩⟩;have l:=bd e
 refine aQ ?_;refine mg ab rfl rfl ?_;refine bH ?_;intro f c;exact⟨_,rfl,c.ext,.inr ⟨.inr (mj aa (.inl aa)),rfl⟩⟩;have B:=bd j
 refine aQ ?_;refine ao rfl mh rfl (λw' _=>mi w' b) ?_;refine aq ?_;refine aW 125 rfl (λe=>?_) (λe=>?_);have l:=aX e
 refine ah ?_;refine ao rfl mh rfl (λw' _=>mi w' b) ?_;refine al ?_;refine aj (λm=>?_) (λm=>?_);refine aq ?_;refine ao rfl mh rfl (λw' _=>mi w' b) ?_;refine gS (r:=(((b.toNat ||| 32) - 97 :Nat):Int)) rfl rfl rfl (by rw[IntKind.wrap_u8];omega) ?_;refine hk (r:=(((b.toNat ||| 32) - 87 :Nat):Int)) rfl rfl rfl (by rw[IntKind.wrap_u8];omega) ?_;refine aJ ?_;refine dn (r:=16) rfl rfl underlying3 underlying5 rfl ?_;refine ah ?_;refine aj (λo=>?_) (λo=>?_);refine aq ?_;refine mg ab rfl rfl ?_;refine bx ?_;intro f c;exact⟨_,rfl,c.ext,.inr ⟨.inr (mj aa (.inr aa)),rfl⟩⟩;refine aQ ?_;refine fA rfl ((cg aa)) ?_;refine al ?_;refine dn (r:=16) rfl rfl underlying3 underlying54 rfl ?_;refine k3 (r:=((u*16 :Nat):Int)) rfl rfl rfl (by rw[IntKind.wrap_u64];omega) ?_;refine aC ?_;refine dn (r:=(((b.toNat ||| 32) - 87 :Nat):Int)) rfl rfl underlying5 underlying54 (by rw[IntKind.wrap_u64];omega) ?_;refine hk (r:=((u*16+((b.toNat ||| 32) - 87):Nat):Int)) rfl rfl rfl (by rw[IntKind.wrap_u64];omega) ?_;refine aQ ?_;refine cC rfl rfl (cg aa) ?_;refine ar ?_;refine cC rfl rfl (cg aa) ?_;refine ar ?_;refine cC rfl rfl (cg aa) ?_;refine ar ?_;refine kt rfl rfl (cg aa) rfl ?_;refine aq ?_;refine fA rfl ((cg aa)) ?_;refine bx ?_;exact bi (2,u*16+((b.toNat ||| 32) - 87)) (.inr (.inr ⟨rfl,_,_,p,(yH aa aa aa),by dsimp only;omega⟩)) bm (uV rfl rfl rfl rfl rfl rfl rfl rfl rfl) (λw' d=>d);refine aq ?_;refine mg ab rfl rfl ?_;refine bH ?_;intro f c;exact⟨_,rfl,c.ext,.inr ⟨.inr (mj aa (.inl aa)),rfl⟩⟩;have l:=bd e
 refine aQ ?_;refine mg ab rfl rfl ?_;refine bH ?_;intro f c;exact⟨_,rfl,c.ext,.inr ⟨.inr (mj aa (.inl aa)),rfl⟩⟩;refine al ?_;refine fA rfl ((cg aa)) ?_;refine xq ?_;intro f c;exact⟨_,rfl,c.ext,.inl ⟨y,z,E.1,F.1,E.2,F.2,rfl⟩⟩
section
variable {P:Program} {n:Nat} {ops:Array Oper} {Q:cq} {rest:List Oper} {l:Fr} {H:World→Prop} {d:Nat} {ty:TypeId} {pos:String} {a7:Array Edge} {x:Operand} {cv dx:TypeId}
theorem Vl (b:P.isIface cv=true) (ak:Nat.blt d n=true) (c:ba l x=some .nilIface)
 (h:az P n ops Q rest ((d,.bool false)::l) H):az P n ops Q (⟨some d,.binOp .neq cv x (.const .nilIface) dx,ty,pos,a7,none⟩::rest) l H:=
 dd _ ak (λe w a=>by
  have f:e (.const .nilIface)= .nilIface:=a _ _ rfl
  have g:=run_neq_nil_nil_at (P:=P) w cv b
  simp[execOp,a x _ c,f,eqGuard_nil_constR,g]) h
theorem Vm {t:TypeId} {p:Value} (b:P.isIface cv=true) (ak:Nat.blt d n=true) (c:ba l x=some (.iface t p))
 (h:az P n ops Q rest ((d,.bool true)::l) H):az P n ops Q (⟨some d,.binOp .neq cv x (.const .nilIface) dx,ty,pos,a7,none⟩::rest) l H:=
 dd _ ak (λe w a=>by
  have f:e (.const .nilIface)= .nilIface:=a _ _ rfl
  have g:=run_neq_iface_nil (P:=P) w cv b t p
  have i:eqGuard .neq cv x (.const .nilIface) (.iface t p) .nilIface=pure ():=by rfl
  simp[execOp,a x _ c,f,i,g]) h
end
def Vn (v:Value):Prop:= ∃(x:Nat) (t:TypeId) (p:Value),v= .tuple #[.int .u64 (x:Int),.iface t p]
def Vo:Shelf.Ren:=⟨λ| 17=>453 | 21=>463 | 22=>464 | 23=>465 | 24=>466 | 25=>470 | 26=>471 | 27=>330 | 28=>389 | 29=>421 | 30=>440 | 31=>441 | 32=>442 | 33=>443 | 34=>456 | 35=>294 | 36=>457 | 37=>458 | 38=>459 | 39=>469 | 40=>379 | n=>n,λ| 0=>0 | 2=>2 | 3=>3 | 4=>4 | 5=>5 | 9=>9 | 20=>20 | 22=>54 | 24=>80 | 34=>450 | 36=>268 | 37=>51 | 39=>453 | 44=>461 | 47=>155 | 48=>464 | 50=>466 | 52=>437 | 55=>439 | 59=>446 | 60=>116 | 61=>447 | 65=>463 | 66=>427 | 67=>84 | n=>n,λ| 0=>5 | 1=>6 | 2=>2 | 3=>7 | 4=>0 | n=>n⟩
theorem Vp:LaysPu.n17 prog Vo where
 mixed:=by kernel_rfl
 f17:=func453.trans (aU some ab)
 f21:=func463.trans (aU some ab)
 f22:=func464.trans (aU some ab)
 f23:=func465.trans (aU some ab)
 f24:=func466.trans (aU some ab)
 f25:=func470.trans (aU some ab)
 f26:=func471.trans (aU some ab)
 f27:=func330.trans (aU some ab)
 f28:=func389.trans (aU some ab)
 f29:=func421.trans (aU some ab)
 f30:=func440.trans (aU some ab)
 f31:=func441.trans (aU some ab)
 f32:=func442.trans (aU some ab)
 f33:=func443.trans (aU some ab)
 f34:=func456.trans (aU some ab)
 f35:=func294.trans (aU some ab)
 f36:=func457.trans (aU some ab)
 f37:=func458.trans (aU some ab)
 f38:=func459.trans (aU some ab)
 f39:=func469.trans (aU some ab)
 f40:=func379.trans (aU some ab)
 t0:=underlying0
 a0:=isAgg0
 z0:=sizeOf0
 v0:=zeroValue0
 i0:=by kernel_rfl
 t2:=underlying2
 a2:=isAgg2
 z2:=sizeOf2
 v2:=zeroValue2
 i2:=by kernel_rfl
 t3:=underlying3
 a3:=isAgg3
 z3:=sizeOf3
 v3:=zeroValue3
 i3:=by kernel_rfl
 t4:=underlying4
 a4:=isAgg4
 z4:=sizeOf4
 v4:=zeroValue4
 i4:=by kernel_rfl
 t5:=underlying5
 a5:=isAgg5
 z5:=sizeOf5
 v5:=zeroValue5
 i5:=by kernel_rfl
 t9:=underlying9
 a9:=isAgg9
 z9:=sizeOf9
 v9:=zeroValue9
 i9:=by kernel_rfl
 t20:=underlying20
 a20:=isAgg20
 z20:=sizeOf20
 v20:=zeroValue20
 i20:=by kernel_rfl
 t22:=underlying54
 a22:=isAgg54
 z22:=sizeOf54
 v22:=zeroValue54
 i22:=by kernel_rfl
 t24:=underlying80
 a24:=isAgg80
 z24:=sizeOf80
 v24:=zeroValue80
 i24:=by kernel_rfl
 t34:=underlying450
 a34:=isAgg450
 z34:=sizeOf450
 v34:=zeroValue450
 i34:=by kernel_rfl
 c34:=by kernel_rfl
 t36:=underlying268
 a36:=isAgg268
 z36:=sizeOf268
 v36:=zeroValue268
 i36:=by kernel_rfl
 t37:=underlying51
 a37:=isAgg51
 z37:=sizeOf51
 v37:=zeroValue51
 i37:=by kernel_rfl
 t39:=underlying453
 a39:=isAgg453
 z39:=sizeOf453
 v39:=zeroValue453
 i39:=by kernel_rfl
 t44:=underlying461
 a44:=isAgg461
 z44:=sizeOf461
 v44:=zeroValue461
 i44:=by kernel_rfl
 t47:=underlying155
 a47:=isAgg155
 z47:=sizeOf155
 v47:=zeroValue155
 i47:=by kernel_rfl
 t48:=underlying464
 a48:=isAgg464
 z48:=sizeOf464
 v48:=zeroValue464
 i48:=by kernel_rfl
 t50:=underlying466
 a50:=isAgg466
 z50:=sizeOf466
 v50:=zeroValue466
 i50:=by kernel_rfl
 t52:=underlying437
 a52:=isAgg437
 z52:=sizeOf437
 v52:=zeroValue437
 i52:=by kernel_rfl
 t55:=underlying439
 a55:=isAgg439
 z55:=sizeOf439
 v55:=zeroValue439
 i55:=by kernel_rfl
 t59:=underlying446
 a59:=isAgg446
 z59:=sizeOf446
 v59:=zeroValue446
 i59:=by kernel_rfl
 t60:=underlying116
 a60:=isAgg116
 z60:=sizeOf116
 v60:=zeroValue116
 i60:=by kernel_rfl
 t61:=underlying447
 a61:=isAgg447
 z61:=sizeOf447
 t65:=underlying463
 a65:=isAgg463
 z65:=sizeOf463
 v65:=zeroValue463
 i65:=by kernel_rfl
 t66:=underlying427
 a66:=isAgg427
 z66:=sizeOf427
 v66:=zeroValue427
 i66:=by kernel_rfl
 t67:=underlying84
 a67:=isAgg84
 z67:=sizeOf84
 v67:=zeroValue84
 i67:=by kernel_rfl
 g0:=by kernel_rfl
 m0:=by kernel_rfl
 g1:=by kernel_rfl
 m1:=by kernel_rfl
 g2:=by kernel_rfl
 m2:=by kernel_rfl
 g3:=by kernel_rfl
 m3:=by kernel_rfl
 g4:=by kernel_rfl
 m4:=by kernel_rfl
theorem Vq:ad prog 453:=ad.of func453 ab ab
theorem Vr:ad prog 454:=ad.of func454 ab ab
def Js (v:Value):Prop:= ∃t p,v= .iface t p
theorem Vs (w:World) (a:pp w) (fn s:List UInt8) (x y:Int) (d:s.length≤1000000):
 Calls prog 453 [.string (bs fn),.string (bs s),.int .i64 x,.int .i64 y,.iface 450 (.int .i64 2)].toArray w (nx (λv _=>Js v) w):=by
 obtain⟨⟨t,p,b⟩,_⟩:=a;refine (AnyPu.strconv_toError_syntax Vp (bs fn) (bs s) x y _ w (by rw[hH];omega) b (.inr ⟨t,p,rfl⟩)).mono ?_;rintro e w' ⟨N,rfl,_,_,c⟩;exact⟨_,rfl,Ext.sk c,_,_,rfl⟩
def Jt (a b:UInt8) (v:Value):Prop:=
 (∃y z:Nat,y<16∧z<16∧cP a=(y:Int)∧cP b=(z:Int)∧v= .tuple #[.int .u64 ((16*y+z:Nat):Int),.nilIface])∨
 ((cP a= -1∨cP b= -1)∧Vn v)
theorem Vt (w:World) (f:pp w) (a b:UInt8):Calls prog 435 [.string (bs [a,b]),.int .i64 16,.int .i64 8].toArray w (nx (λv _=>Jt a b v) w):=by
 refine aV func435 ntmps435 ?_;refine bp ?_;refine mM (R:=λ_ v _=>Jr a b v) rfl Vr rfl (λw' _=>Vk w' a b) (λA g v h i B C c=>?_);have d:Ext [] w g:=h.ext.dW i
 rcases c with ⟨y,z,j,k,l,m,rfl⟩ | ⟨n,rfl⟩
 refine bp ?_;refine Vl ab rfl rfl ?_;refine b7 ?_;intro o e;exact⟨_,rfl,d.dW e.ext,.inl ⟨y,z,j,k,l,m,rfl⟩⟩;refine bp ?_;refine Vm ab rfl rfl ?_;refine aQ ?_;refine mM (R:=λ_ v _=>Js v) rfl Vq rfl (λw' q=>Vs w' (f.ext (d.dW q.ext)) [80,97,114,115,101,85,105,110,116] [a,b] 16 8 (by show 2≤1000000;decide)) (λD r v s u E F c=>?_);obtain⟨t,p,rfl⟩:=c;have x:Ext [] w r:=(d.dW s.ext).dW u
 refine aC ?_;intro o e;exact⟨_,rfl,x.dW e.ext,.inr ⟨n,_,_,_,rfl⟩⟩
structure ly where
 kind:Int
 code:Int
 has:Bool
 text:List UInt8
abbrev ly.cells (x:ly):List Value:=[.int .i64 x.kind,.int .i64 x.code,.bool x.has,.string (bs x.text)]
def ml (k:Int):ly:=⟨k,0,false,[]⟩
def n8:ly:=ml 0
def n9 (k:Int) (s:List UInt8):ly:=⟨k,0,false,s.take 256⟩
def gK (s:List UInt8):List UInt8:=if s.head?=some 45 then s.drop 1 else s
def codeOk (s:List UInt8):Bool:=decide (1≤(gK s).length) && decide ((gK s).length≤9) && (gK s).all po
def codeF (s:List UInt8):Int × Bool:=if codeOk s=true then (if s.head?=some 45 then -(vM (gK s):Int) else (vM (gK s):Int),true) else (0,false)
def iW (s:List UInt8):Nat × UInt8:=
 if s.take 2=[92,92] then (2,92) else
 if s.take 2=[92,120]∧4≤s.length∧0≤cP (s.getD 2 0)∧0≤cP (s.getD 3 0) then (4,n7 (s.getD 2 0) (s.getD 3 0)) else (1,s.headD 0)
theorem Ju (s:List UInt8):1≤(iW s).1:=by
 unfold iW;split
 exact Nat.le_succ 1;split
 exact (by decide: (1 :Nat)≤4);exact bW 1
theorem Vu {s:List UInt8} (h:s≠[]): (iW s).1≤s.length:=by
 have a:=uo.2 h
 unfold iW;split
 rename_i b;have:=aU List.length b
 rw[dl] at this
 simp at this
 omega
 split
 rename_i c;exact c.2.1
 exact a
def ia (s:List UInt8):List UInt8:=if h:s=[] then [] else (iW s).2::ia (s.drop (iW s).1)
termination_by s.length
decreasing_by
 have a:=uo.2 h
 have:=Ju s
 rw[fJ];omega
theorem Jv:ia []=[]:=by rw[ia,dif_pos rfl]
theorem Jw {s:List UInt8} (h:s≠[]):ia s=(iW s).2::ia (s.drop (iW s).1):=by rw[ia,dif_neg h]
theorem Cv: ∀(m:Nat) (s:List UInt8),s.length≤m→(ia s).length≤s.length
 | m,s,a=>by
  by_cases h:s=[]
  rw[h,Jv];exact bW _
  have b:=uo.2 h
  have c:=Ju s
  cases m with
  | zero=>omega
  | succ m=>
   have:=Cv m (s.drop (iW s).1) (by rw[fJ];omega)
   rw[fJ] at this
   rw[Jw h,eO];omega
def jO (s:List UInt8):List UInt8:=(fO 59 s).getD 0 []
def Cw (s:List UInt8):List UInt8:=(fO 59 s).getD 1 []
def Cx (s:List UInt8):List UInt8:=(fO 59 s).getD 2 []
def jv (s:List UInt8):Bool:=decide (3≤(fO 59 s).length)
def jP (s:List UInt8):List UInt8:=if 59∈s then (s.dropWhile (· ≠59)).drop 1 else []
def tP:List UInt8:=[67,119,100,61]
def rJ:List UInt8:=[67,117,114,114,101,110,116,68,105,114,61]
def yI:List UInt8:=[83,101,116,77,97,114,107]
def kj (c:Bool) (a b:List UInt8) (has:Bool):ly:=
 if a=[65] then ml 1 else if a=[66] then ml 2 else if a=[67] then ml 3 else
 if a=[68] then (if has=true then ⟨4,(codeF b).1,(codeF b).2,[]⟩ else ml 4) else
 if a=[69] then (if c=true∧has=true then n9 5 (ia b) else n8) else
 if a=[80] then (if c=true∧b.take 4=tP then n9 6 (ia (b.drop 4)) else n8) else n8
def tQ (rest:List UInt8):ly:=match pq rest with
 | some p=>n9 6 p.2
 | none=>n8
def o8 (rest:List UInt8):ly:=if rest=yI then ml 7 else if rest.take 11=rJ then n9 6 (rest.drop 11) else n8
def lz (s:List UInt8):ly:=
 if jO s=[49,51,51]∨jO s=[54,51,51] then kj (decide (jO s=[54,51,51])) (Cw s) (Cx s) (jv s) else
 if jO s=[55] then tQ (jP s) else
 if jO s=[49,51,51,55] then o8 (jP s) else
 if (jO s=[48]∨jO s=[50])∧59∈s then n9 8 (jP s) else n8
theorem Vv (s:List UInt8): (lz s).text.length≤256:=by
 have e: ∀k,(ml k).text.length≤256:=λk=>bP _
 have c: ∀k t,(n9 k t).text.length≤256:=λk t=>by
  show (t.take 256).length≤256
  rw[dl];omega
 have d:n8.text.length≤256:=bP _
 have g: ∀f a b h,(kj f a b h).text.length≤256:=λf a b h=>by
  unfold kj;repeat' split
  all_goals first | exact e _ | exact c _ _ | exact d
 have i: ∀r,(tQ r).text.length≤256:=λr=>by
  unfold tQ;split
  ·exact c _ _
  ·exact d
 have j: ∀r,(o8 r).text.length≤256:=λr=>by
  unfold o8;repeat' split
  all_goals first | exact e _ | exact c _ _
 unfold lz;repeat' split
 all_goals first | exact g _ _ _ _ | exact i _ | exact j _ | exact c _ _ | exact d
theorem Vw {s:List UInt8} (h:codeOk s=true):Lib.atoiAll s= .ok (codeF s).1:=by
 have j:=h
 unfold codeOk at h
 rw[d4,d4,e9,e9,i_] at h
 obtain⟨⟨b,k⟩,ak⟩:=h;have m: ∀(l:List UInt8),(∀c∈l,po c=true)→ ∀a,l.foldl ki a+1≤(a+1)*10 ^ l.length:=by
  intro l;induction l with
  | nil=>intro _ a;simp
  | cons c l n=>
   intro i a;have g:=aX (i c av)
   have:=n (λx o=>i x (by simp[o])) (ki a c)
   rw[r6,eO,Nat.pow_succ];refine fp this ?_;have:ki a c+1≤(a+1)*10:=by unfold ki;omega
   calc (ki a c+1)*10 ^ l.length≤((a+1)*10)*10 ^ l.length:=k1 _ this
    _=(a+1)*(10 ^ l.length*10):=by rw[Nat.mul_assoc,qQ 10]
 have f:vM (gK s)≤999999999:=by
  have p:=m _ ak 0
  rw[←Cr] at p
  have q:10 ^ (gK s).length≤10 ^ 9:=qR aZ k
  have r:10 ^ 9=1000000000:=by decide
  omega
 have ai:Lib.parseMag (gK s)= .ok (vM (gK s)):=by
  unfold Lib.parseMag;rw[ag (λe=>by rw[e] at b;simp at b),I_ _ _ ak (by rw[←Cr];omega),←Cr]
 unfold codeF;rw[aw j];unfold gK at ai f b ak ⊢
 cases s with
 | nil=>simp at b
 | cons c l=>
  by_cases d: (c::l).head?=some 45
  rw[aw d] at ai f b ak ⊢
  have g:c=45:=by simpa using d
  subst g;rw[List.drop_one,List.tail_cons] at ai f ⊢
  rw[Lib.atoiAll_minus,ai];simp only[Lib.signed];rw[ag aa,aw d];rw[ag d] at ai f b ak ⊢
  have g:=aX (ak c av)
  rw[Lib.atoiAll_plain c l aa aa,ai];simp only[Lib.signless];rw[ag aa,ag d]
end
end Go.Proofs.YtlgnfdodnhokjaaGreatDoor.Mq.Os
