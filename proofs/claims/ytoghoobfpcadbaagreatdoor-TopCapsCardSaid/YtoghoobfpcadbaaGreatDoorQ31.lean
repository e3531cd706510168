/- part 31 of the proof -/
import Derived.Test.YtoghoobfpcadbaaGreatDoorQ30
namespace Go.Proofs.YtoghoobfpcadbaaGreatDoor.Mq
open Go Go.RowKit Go.Proofs Tryz
section
structure e7 where
 am:bd
 bk:bd
 use:Bool
 ca:Nat
 cl:List UInt8
 buf:List UInt8
 aG:List jJ
def bK.abs (t:bK):e7:=⟨t.am.abs,t.bk.abs,t.use,t.ca,t.cl,t.buf.l,t.aG.l⟩
def mW (g par:Nat) (X:Chunk) (R:Int) (m:Nat) (T:bK) (q:Option e7) (w:World):Ending→World→Prop:=aO (λ_:bK=> .tuple #[]) (bz g par X T) (bz g par X) (λbu=>cp g R m bu∧ ∀r,q=some r→bu.abs=r) w
section
variable {P:Program} {n:Nat} {ops:Array Oper} {Q:cq} {rest:List Oper} {l:Fr} {d:Nat} {ty:TypeId} {pos:String} {a6:Array Edge}
variable {b:World} {S:List Nat} {args:List Operand} {da:Array TypeId} {f:FuncId} {vs:List Value} {v:Value} {g par k m p:Nat} {R:Int} {T:bK} {X eY:Chunk} {q:bd}
theorem vL (e:cp g R m T) (i:cR k T.am.abs q) (ai:p=T.am.g) (ak:Nat.blt d n=true) (j:ad P f) (o:cM l args=some (ptr p::vs))
 (r: ∀w,a8 w (aP T.am)→Calls P f (ptr T.am.g::vs).toArray w (ej T.am v q w))
 (h: ∀bu:bK,cp g R (m+k) bu→p=bu.am.g→kQ T bu→bu.abs= { T.abs with am:=q }→bu.ca=T.ca→az P n ops Q rest ((d,v)::l) (af b S (eY::bz g par X bu))):
 az P n ops Q (⟨some d,.call ⟨.value (.func f),args.toArray,da⟩,ty,pos,a6,none⟩::rest) l (af b S (eY::bz g par X T)):=by
 subst ai;refine kH (l0:=aP T.am) (l':=aP) (cs1:=λz=>[eY,eE g par T,aU (aP z),aU (aP T.bk),T.buf.au,T.aG.au,X]) (λz=>bn.tail (bn.tail bn.head)) ak j o (λw s=>r w (s.kG (Has.tail (Has.tail Has.head)))) (λz a=>?_);have c:=h { T with am:=z } (e.rp (a.gX i)) a.g.symm ⟨rfl,a.g,rfl⟩ (by simp only[bK.abs,a.abs]) rfl
 simp only[bz] at c
 rw[rq a.g] at c
 exact c
end
theorem Vw [Inhabited bN] (w:World) (g par:Nat) (X:Chunk) (T:bK) (c:a8 w (bz g par X T)) {R:Int} {m:Nat} (a:cp g R m T) (l:m≤900000000000) (e:dV):
 Calls prog 109 [ptr g,.agg e.enc.toArray].toArray w (mW g par X R (m+2) T (some { T.abs with am:=vl T.abs.am e.r }) w):=by
 refine bC func109 ntmps109 c ?_;refine ah ?_;intro n p q;refine aq ?_;refine bF [0,2,3] 2 [[(1,false,[]),(4,true,[])]] ?_;refine ax ?_;refine ao rfl fc rfl (λb d=>fe b g par T (d.has bH)) ?_;refine ah ?_;refine vL (k:=2) a (R9 _ _) rfl rfl Nc rfl (λb o=>Sa b T.am o a.am.g a.am.ok (by have:=a.be;omega) _) (λbu f ai s h _=>?_);refine aS ?_;intro t i;exact aN bu ⟨f,λr j=>by cases j;exact h⟩ i
theorem Cs (w:World) (b:Nat) (c:b<4294967296) {a:Nat} {M:Bool} (d:b=a) (e:M=dz.rt a false 20):Calls prog 164 [dz.tv b,.bool false,.int .i64 20].toArray w (Pure (.bool M) w):=by
 subst d;subst e
 exact dz.qk w b c false 20
def yG (t:e7) (c:Int):Option e7:=if c=13 then some { t with am:={ t.am with x:=0 } } else if c=10∧dz.rt t.ca false 20=false then some { t with am:=(iQ t.am).1 } else none
theorem Vx [Inhabited bN] (w:World) (g par:Nat) (X:Chunk) (T:bK) (H:a8 w (bz g par X T)) (I:vG X) {R:Int} {m:Nat} (a:cp g R m T) (V:m≤900000000000) (e:dV):
 Calls prog 110 [ptr g,.agg e.enc.toArray].toArray w (mW g par X R (m+2) T (yG T.abs e.byte) w):=by
 obtain⟨M,z⟩ : ∃M,M=dz.rt T.ca false 20:=⟨_,rfl⟩;have n: ∀c r,yG T.abs c=some r→(c=13∧{ T.abs with am:={ T.abs.am with x:=0 } } = r)∨(c=10∧M=false∧{ T.abs with am:=(iQ T.abs.am).1 } = r):=λc r h=>by
  unfold yG at h
  split at h
  exact .inl ⟨bA,by injection h⟩;split at h
  rename_i d;exact .inr ⟨d.1,z.trans d.2,by injection h⟩;cases h
 refine bC func110 ntmps110 H ?_;refine ah ?_;intro W Y Z;refine ax ?_;refine ao rfl fc rfl (λb s=>fe b g par T (s.has bH)) ?_;refine dx ?_;refine aj (λJ=>?_) (λJ=>?_);refine aq ?_;refine ek (k:=0) a bb rfl Nd rfl (λb o x=>Ts o a.am) (λT a ai u=>?_);refine ah ?_;intro q f;exact aN T ⟨a.mono aa,λr i=>by rcases n _ _ i with ⟨j,d⟩ | ⟨j,d,p⟩ <;> (exfalso;omega)⟩ f;refine al ?_;refine aj (λaK=>?_) (λaK=>?_);refine aq ?_;refine ek (k:=0) a bb rfl zQ rfl (λb o x=>BZ o a.am (λw' h=>(I w' (x w' h)).yz) _) (λT a ai u=>?_);refine ah ?_;intro q f;exact aN T ⟨a.mono aa,λr i=>by rcases n _ _ i with ⟨j,d⟩ | ⟨j,d,p⟩ <;> (exfalso;omega)⟩ f;refine aD ?_;refine aj (λA=>?_) (λA=>?_);have E:=A
 refine aq ?_;refine eA rfl ((b5 E)) ?_;refine ah ?_;refine vL (k:=2) a (s0 _) rfl rfl uB rfl (λb o=>xS b T.am o a.am.g a.am.ok (by have:=a.be;omega)) (λT a ai u B y=>?_);refine aL ?_;refine ao (v:= .bool M) rfl ng rfl (λb s=>Cs b T.ca a.md y z) ?_;refine aq ?_;refine b6 rfl (λK=>?_) (λK=>?_);refine aq ?_;refine ek (k:=0) a ai rfl qX rfl (λb o x=>tt o a.am) (λT a ai u=>?_);refine ah ?_;intro q f;exact aN T ⟨a.mono aa,λr i=>by rcases n _ _ i with ⟨j,d⟩ | ⟨j,d,p⟩ <;> first | (exfalso;omega) | (exfalso;subst d;contradiction)⟩ f;refine ah ?_;intro q f;exact aN T ⟨a.mono aa,λr i=>by rcases n _ _ i with ⟨j,d⟩ | ⟨j,d,p⟩ <;> first | (exfalso;omega) | (subst p;exact B)⟩ f;have E:=A
 refine al ?_;refine aj (λC=>?_) (λC=>?_);have F:=C
 refine aq ?_;refine eA rfl ((b5 F)) ?_;refine ah ?_;refine vL (k:=2) a (s0 _) rfl rfl uB rfl (λb o=>xS b T.am o a.am.g a.am.ok (by have:=a.be;omega)) (λT a ai u B y=>?_);refine aL ?_;refine ao (v:= .bool M) rfl ng rfl (λb s=>Cs b T.ca a.md y z) ?_;refine aq ?_;refine b6 rfl (λL=>?_) (λL=>?_);refine aq ?_;refine ek (k:=0) a ai rfl qX rfl (λb o x=>tt o a.am) (λT a ai u=>?_);refine ah ?_;intro q f;exact aN T ⟨a.mono aa,λr i=>by rcases n _ _ i with ⟨j,d⟩ | ⟨j,d,p⟩ <;> (exfalso;omega)⟩ f;refine ah ?_;intro q f;exact aN T ⟨a.mono aa,λr i=>by rcases n _ _ i with ⟨j,d⟩ | ⟨j,d,p⟩ <;> (exfalso;omega)⟩ f;have F:=C
 refine ax ?_;refine aj (λN=>?_) (λN=>?_);refine ah ?_;refine vL (k:=2) a (s0 _) rfl rfl uB rfl (λb o=>xS b T.am o a.am.g a.am.ok (by have:=a.be;omega)) (λT a ai u B y=>?_);refine aL ?_;refine ao (v:= .bool M) rfl ng rfl (λb s=>Cs b T.ca a.md y z) ?_;refine aq ?_;refine b6 rfl (λO=>?_) (λO=>?_);refine aq ?_;refine ek (k:=0) a ai rfl qX rfl (λb o x=>tt o a.am) (λT a ai u=>?_);refine ah ?_;intro q f;exact aN T ⟨a.mono aa,λr i=>by rcases n _ _ i with ⟨j,d⟩ | ⟨j,d,p⟩ <;> (exfalso;omega)⟩ f;refine ah ?_;intro q f;exact aN T ⟨a.mono aa,λr i=>by rcases n _ _ i with ⟨j,d⟩ | ⟨j,d,p⟩ <;> (exfalso;omega)⟩ f;refine al ?_;refine aj (λP=>?_) (λP=>?_);refine aq ?_;refine vL (k:=0) a (s6 _) rfl rfl qX rfl (λb o=>G9 b T.am o a.am.g) (λT a ai u Q _=>?_);refine ah ?_;intro q f;exact aN T ⟨a.mono aa,λr i=>by rcases n _ _ i with ⟨j,d⟩ | ⟨j,d,p⟩ <;> first | (exfalso;omega) | (subst d;exact Q)⟩ f;refine aD ?_;refine aj (λD=>?_) (λD=>?_);have G:=D
 refine aq ?_;refine eA rfl ((b5 G)) ?_;refine bF [0,1,4,5] 3 [[(2,false,[3]),(6,false,[]),(7,true,[])]] ?_;refine al ?_;refine ao rfl ja rfl (λb s=>jp b T.am (s.eg (l:=aP T.am) cu Has.head)) ?_;refine ar ?_;refine aI rfl (λS n=>(j9 (t:=91) (off:=7) ab lN rfl rfl rfl aC)) ?_;refine aq ?_;refine ao rfl Ey rfl (λb s=>Hi b ⟨_,_,_,_,_,_⟩ _) ?_;refine ah ?_;refine ek (k:=0) a bb rfl nh rfl (λb o x=>nT o a.am ⟨_,_,_,_,_,_⟩) (λT a ai u=>?_);refine ax ?_;intro q f;exact aN T ⟨a.mono aa,λr i=>by rcases n _ _ i with ⟨j,d⟩ | ⟨j,d,p⟩ <;> (exfalso;omega)⟩ f;have G:=D
 refine ax ?_;refine aj (λU=>?_) (λU=>?_);refine bF [0,1,4,5] 3 [[(2,false,[3]),(6,false,[]),(7,true,[])]] ?_;refine al ?_;refine ao rfl ja rfl (λb s=>jp b T.am (s.eg (l:=aP T.am) cu Has.head)) ?_;refine ar ?_;refine aI rfl (λS n=>(j9 (t:=91) (off:=7) ab lN rfl rfl rfl aC)) ?_;refine aq ?_;refine ao rfl Ey rfl (λb s=>Hi b ⟨_,_,_,_,_,_⟩ _) ?_;refine ah ?_;refine ek (k:=0) a bb rfl nh rfl (λb o x=>nT o a.am ⟨_,_,_,_,_,_⟩) (λT a ai u=>?_);refine ax ?_;intro q f;exact aN T ⟨a.mono aa,λr i=>by rcases n _ _ i with ⟨j,d⟩ | ⟨j,d,p⟩ <;> (exfalso;omega)⟩ f;refine ah ?_;intro q f;exact aN T ⟨a.mono aa,λr i=>by rcases n _ _ i with ⟨j,d⟩ | ⟨j,d,p⟩ <;> (exfalso;omega)⟩ f
end
abbrev kR (s:bl):bl:={ s with ap:={ s.ap with be:=⟨none,0,[]⟩ } }
theorem Jc {w:World} {s:bl} (b:a8 w (aP s)):Calls prog 184 [ptr s.ap.g].toArray w (aO (λ_:Unit=>s.ap.be.val) (aP s) (λ_=>aP (kR s)++[s.ap.be.au]) (λ_=>True) w):=by
 have a:af w (aA (aP s)) (aP s) w:=b.start w rfl
 refine (Tg w s.ap (a.bo ae)).mono ?_;rintro e w' ⟨i,hi,rfl,c⟩;exact⟨(),aT,rfl,(a.pU ae c).aw ae⟩
def n0 (s:ec):jJ:=⟨false,0,0,false,[],0,0,s.kind,s.at_,s.n⟩
def hZ (t:e7):e7:=
 if t.use=true then { t with bk:={ t.bk with bE:={ t.bk.bE with gd:=[] } },aG:=t.aG++t.bk.bE.gd.map n0 }
 else { t with am:={ t.am with bE:={ t.am.bE with gd:=[] } },aG:=t.aG++t.am.bE.gd.map n0 }
theorem Jd (s:bl) (a:dW s):dW (kR s):=⟨⟨a.g.r,a.g.st,a.g.n⟩,⟨⟨a.ok.bE.cols,a.ok.bE.rows,a.ok.bE.wide,a.ok.bE.nC,a.ok.bE.room⟩,a.ok.y,a.ok.x,a.ok.top⟩,a.small⟩
theorem Je [Inhabited bN] (w : World) (g par : Nat) (X : Chunk) (T : bK) (F : a8 w (bz g par X T)) {R : Int} {m : Nat} (a : cp g R m T) (Q : m ≤ 900000000000) :
 Calls prog 115 [ptr g].toArray w (mW g par X R m T (some (hZ T.abs)) w) := by
 obtain ⟨am, bk, use, ca, cl, bL, buf, aG⟩ := T
 have G := a.be
 dsimp only at G
 refine bC func115 ntmps115 F ?_
 cases use with
 | false =>
  refine ax ?_
  refine dt (q := 0) underlying75 pG rfl rfl rfl (by rfl) (by omega) ?_
  refine ar ?_
  refine ao rfl jV rfl (fun n b => j3 n am (b.eg (l := aP am) bH Has.head)) ?_
  refine kH (l0 := aP am) (l' := fun _ : Unit => aP (kR am) ++ [am.ap.be.au]) (cs1 := fun _ => [eE g par ⟨am, bk, false, ca, cl, bL, buf, aG⟩, aU (aP (kR am) ++ [am.ap.be.au]), aU (aP bk), buf.au, aG.au, X]) (fun _ => bn.tail bn.head) rfl EC rfl (fun n b => Jc (b.kG (Has.tail Has.head))) (fun _ _ => ?_)
  refine ax ?_
  refine b1 (ι := Nat × nR) (fun t => [(0, ptr g), (10, am.ap.be.val), (11, .int .i64 (am.ap.be.l.length : Int)), (12, .int .i64 (t.1 : Int))]) (fun t => af w (aA (bz g par X ⟨am, bk, false, ca, cl, bL, buf, aG⟩)) (am.ap.be.au :: bz g par X ⟨kR am, bk, false, ca, cl, bL, buf, t.2⟩)) (fun t => t.1 ≤ am.ap.be.l.length ∧ t.2.l = aG.l ++ (am.ap.be.l.take t.1).map n0) (fun t => am.ap.be.l.length - t.1) ?_ ?_
  ·exact fun w' p => ⟨(0, aG), ⟨Nat.zero_le _, by simp⟩, (cw rfl rfl rfl rfl), by
    have f := (p.open (l := aP (kR am) ++ [am.ap.be.au]) cB)
    exact (f.close (l := aP (kR am)) ae).aw ae⟩
  ·rintro ⟨i, d⟩ ⟨hi, e⟩
   dsimp only at hi e ⊢
   have H : d.l.length = aG.l.length + i := by rw [e, List.length_append, List.length_map, List.length_take]; omega
   refine al ?_
   refine aj (fun v => ?_) (fun v => ?_)
   ·obtain ⟨s, y⟩ : ∃ s, am.ap.be.l[i]? = some s := ⟨am.ap.be.l[i]'(by omega), List.getElem?_eq_getElem _⟩
    obtain ⟨gX, ka, jK⟩ := s
    refine al ?_
    refine jm (E := jX) aQ zv rfl rfl rfl (by rfl) (by omega) (fun I z => ?_)
    refine cy zw rfl rfl rfl (fun J f j u A => f.fO (E := jX) aQ z (by assumption) j u A) ?_
    refine ar ?_
    intro B K L
    refine ah ?_
    refine eq [0, 1, 2, 3, 4, 5, 6] 3 [[(7, false, []), (8, false, [9, 10]), (11, true, [])]] (_) mixed (by kernel_rfl) (fun _ k => k.drew) (fun _ h => (show af _ _ [aE B _ 167, eE g par _] _ from h.aw ae)) ?_
    refine aJ ?_
    refine dG (E := lv) ⟨_, _, _, _, [], _, _, _, _, _⟩ qT rfl rfl rfl rfl rfl (fun M N O => ?_)
    refine bV (fun _ => True) (fun _ h => .inr (h.aw ae)) (fun _ h => trivial) ?_
    refine aq ?_
    refine ew (E := lv) qT rfl rfl rfl bi (fun _ _ => uL) b7 b7 (fun S U => ?_)
    refine bV (fun _ => True) (fun _ h => .inr ⟨.inr (h.aw ae), (by trivial)⟩) (fun _ h => trivial) ?_
    refine b_ ?_
    exact bg (i + 1, ⟨_, _, d.l ++ [⟨false, 0, 0, false, [], 0, 0, gX, ka, jK⟩]⟩) ⟨by omega, by dsimp only; rw [e, List.take_add_one, y, List.append_assoc]; simp [n0]⟩ bm (cw rfl rfl rfl rfl) (fun _ h => h.aw ae)
   ·refine ax ?_
    intro P k
    have C : i = am.ap.be.l.length := by omega
    have o : d.l = aG.l ++ am.ap.be.l.map n0 := by rw [e, C, List.take_length]
    refine aN ⟨kR am, bk, false, ca, cl, bL, buf, d⟩ ⟨⟨Jd _ a.am, a.bk, a.room, a.bL, a.cl, ?_, a.buf, ?_, a.md⟩, fun r D => ?_⟩ k
    ·dsimp only [List.length_nil]; omega
    ·intro c b; dsimp only at b; rw [o] at b; exact (List.mem_append.1 b).elim (a.aG c) (fun h => by obtain ⟨x, _, rfl⟩ := List.mem_map.1 h; simp [n0])
    ·cases D; simp only [bK.abs, hZ, o]; rfl
 | true =>
  refine ax ?_
  refine dt (q := 0) underlying75 pG rfl rfl rfl (by rfl) (by omega) ?_
  refine ar ?_
  refine ao rfl jV rfl (fun n b => j3 n bk (b.eg (l := aP bk) cu Has.head)) ?_
  refine kH (l0 := aP bk) (l' := fun _ : Unit => aP (kR bk) ++ [bk.ap.be.au]) (cs1 := fun _ => [eE g par ⟨am, bk, true, ca, cl, bL, buf, aG⟩, aU (aP am), aU (aP (kR bk) ++ [bk.ap.be.au]), buf.au, aG.au, X]) (fun _ => bn.tail (bn.tail bn.head)) rfl EC rfl (fun n b => Jc (b.kG (Has.tail (Has.tail Has.head)))) (fun _ _ => ?_)
  refine ax ?_
  refine b1 (ι := Nat × nR) (fun t => [(0, ptr g), (10, bk.ap.be.val), (11, .int .i64 (bk.ap.be.l.length : Int)), (12, .int .i64 (t.1 : Int))]) (fun t => af w (aA (bz g par X ⟨am, bk, true, ca, cl, bL, buf, aG⟩)) (bk.ap.be.au :: bz g par X ⟨am, kR bk, true, ca, cl, bL, buf, t.2⟩)) (fun t => t.1 ≤ bk.ap.be.l.length ∧ t.2.l = aG.l ++ (bk.ap.be.l.take t.1).map n0) (fun t => bk.ap.be.l.length - t.1) ?_ ?_
  ·exact fun w' p => ⟨(0, aG), ⟨Nat.zero_le _, by simp⟩, (cw rfl rfl rfl rfl), by
    have f := (p.open (l := aP (kR bk) ++ [bk.ap.be.au]) pV)
    exact (f.close (l := aP (kR bk)) ae).aw ae⟩
  ·rintro ⟨i, d⟩ ⟨hi, e⟩
   dsimp only at hi e ⊢
   have H : d.l.length = aG.l.length + i := by rw [e, List.length_append, List.length_map, List.length_take]; omega
   refine al ?_
   refine aj (fun v => ?_) (fun v => ?_)
   ·obtain ⟨s, y⟩ : ∃ s, bk.ap.be.l[i]? = some s := ⟨bk.ap.be.l[i]'(by omega), List.getElem?_eq_getElem _⟩
    obtain ⟨gX, ka, jK⟩ := s
    refine al ?_
    refine jm (E := jX) aQ zv rfl rfl rfl (by rfl) (by omega) (fun I z => ?_)
    refine cy zw rfl rfl rfl (fun J f j u A => f.fO (E := jX) aQ z (by assumption) j u A) ?_
    refine ar ?_
    intro B K L
    refine ah ?_
    refine eq [0, 1, 2, 3, 4, 5, 6] 3 [[(7, false, []), (8, false, [9, 10]), (11, true, [])]] (_) mixed (by kernel_rfl) (fun _ k => k.drew) (fun _ h => (show af _ _ [aE B _ 167, eE g par _] _ from h.aw ae)) ?_
    refine aJ ?_
    refine dG (E := lv) ⟨_, _, _, _, [], _, _, _, _, _⟩ qT rfl rfl rfl rfl rfl (fun M N O => ?_)
    refine bV (fun _ => True) (fun _ h => .inr (h.aw ae)) (fun _ h => trivial) ?_
    refine aq ?_
    refine ew (E := lv) qT rfl rfl rfl bi (fun _ _ => uL) b7 b7 (fun V W => ?_)
    refine bV (fun _ => True) (fun _ h => .inr ⟨.inr (h.aw ae), (by trivial)⟩) (fun _ h => trivial) ?_
    refine b_ ?_
    exact bg (i + 1, ⟨_, _, d.l ++ [⟨false, 0, 0, false, [], 0, 0, gX, ka, jK⟩]⟩) ⟨by omega, by dsimp only; rw [e, List.take_add_one, y, List.append_assoc]; simp [n0]⟩ bm (cw rfl rfl rfl rfl) (fun _ h => h.aw ae)
   ·refine ax ?_
    intro P k
    have C : i = bk.ap.be.l.length := by omega
    have o : d.l = aG.l ++ bk.ap.be.l.map n0 := by rw [e, C, List.take_length]
    refine aN ⟨am, kR bk, true, ca, cl, bL, buf, d⟩ ⟨⟨a.am, Jd _ a.bk, a.room, a.bL, a.cl, ?_, a.buf, ?_, a.md⟩, fun r D => ?_⟩ k
    ·dsimp only [List.length_nil]; omega
    ·intro c b; dsimp only at b; rw [o] at b; exact (List.mem_append.1 b).elim (a.aG c) (fun h => by obtain ⟨x, _, rfl⟩ := List.mem_map.1 h; simp [n0])
    ·cases D; simp only [bK.abs, hZ, o]; rfl
section
def Ct (x:Os.lx) (y c:Int):jJ:=⟨true,x.kind,x.code,x.has,x.text,y,c,0,0,0⟩
def n1 (t:e7) (text:List UInt8) (cut:Bool):e7:=
 if cut=true then t else
 if (Os.ly text).kind=8 then { t with cl:=(Os.ly text).text } else
 if (Os.ly text).kind≠0∧t.use=false then { hZ t with aG:=(hZ t).aG++[Ct (Os.ly text) ((hZ t).am.y+fN (hZ t).am.bE) (hZ t).am.x] } else t
theorem Jf (t:e7) (s:List UInt8):n1 t s true=t:=ay rfl
section
variable {t:e7} {s:List UInt8} {rd:Os.lx}
theorem Jg (a:rd=Os.ly s) (b:rd.kind=8):n1 t s false= { t with cl:=rd.text }:=by
 subst a;rw[n1,ag aZ,ay b]
theorem Cu (b:rd=Os.ly s) (c:rd.kind≠8) (h:rd.kind=0∨t.use=true):n1 t s false=t:=by
 subst b;rw[n1,ag aZ,ag c,ag (λa=>by rcases h with h | h;exact a.1 h;rw[h] at a;exact Bool.noConfusion a.2)]
theorem Vy (a:rd=Os.ly s) (b:rd.kind≠8) (c:rd.kind≠0) (e:t.use=false) {d:e7} (ak:d=hZ t):n1 t s false= { d with aG:=d.aG++[Ct rd (d.am.y+fN d.am.bE) d.am.x] }:=by
 subst a;subst ak
 rw[n1,ag aZ,ag b,ay ⟨c,e⟩]
end
section
variable {P:Program} {n:Nat} {ops:Array Oper} {Q:cq} {rest:List Oper} {l:Fr} {d:Nat} {ty:TypeId} {pos:String} {a6:Array Edge}
variable {b:World} {S:List Nat} {args:List Operand} {da:Array TypeId} {f:FuncId} {vs:List Value} {g par m:Nat} {R:Int} {T:bK} {X eY rz:Chunk} {q:Option e7}
theorem Vz (ak:Nat.blt d n=true) (c:ad P f) (j:cM l args=some vs)
 (k: ∀w,a8 w (bz g par X T)→Calls P f vs.toArray w (mW g par X R m T q w))
 (h: ∀bu:bK,cp g R m bu→(∀r,q=some r→bu.abs=r)→az P n ops Q rest ((d,.tuple #[])::l) (af b S (eY::rz::bz g par X bu))):
 az P n ops Q (⟨some d,.call ⟨.value (.func f),args.toArray,da⟩,ty,pos,a6,none⟩::rest) l (af b S (eY::rz::bz g par X T)):=by
 refine gO rfl ak c j λw a=>?_
 have:=k w (a.bo ae)
 simp only[iA,iX];refine this.mono ?_;rintro e w' ⟨i,hi,rfl,o⟩;exact⟨.tuple #[],rfl,(h i hi.1 hi.2).at ((a.pU ae o).perm (og (l₁:=bz g par X i) (l₂:=[eY,rz])))⟩
theorem VA (ak:Nat.blt d n=true) (c:ad P f) (j:cM l args=some vs)
 (k: ∀w,a8 w (bz g par X T)→Calls P f vs.toArray w (mW g par X R m T q w))
 (h: ∀bu:bK,cp g R m bu→(∀r,q=some r→bu.abs=r)→az P n ops Q rest ((d,.tuple #[])::l) (af b S (bz g par X bu))):
 az P n ops Q (⟨some d,.call ⟨.value (.func f),args.toArray,da⟩,ty,pos,a6,none⟩::rest) l (af b S (bz g par X T)):=by
 refine gO rfl ak c j λw a=>?_
 have:=k w (a.bo ae)
 simp only[iA,iX];refine this.mono ?_;rintro e w' ⟨i,hi,rfl,o⟩;exact⟨.tuple #[],rfl,(h i hi.1 hi.2).at (a.pU ae o)⟩
end
theorem VB [Inhabited bN] {g:Nat} {R:Int} {m:Nat} {am bk:bl} {ca:Nat} {cl:List UInt8} {bL:Option Addr} {buf:is} {aG e:nR} {t:e7} {rd:Os.lx} {s:List UInt8} {cut:Bool} (a:cp g R m ⟨am,bk,false,ca,cl,bL,buf,aG⟩)
 (ak: ∀r,some (hZ t)=some r→bK.abs ⟨am,bk,false,ca,cl,bL,buf,aG⟩=r) (j:rd=Os.ly s) (b:cut=false) (k: ¬rd.kind=8) (o: ¬rd.kind=0) (p:rd.text.length≤256) (f:e.l=aG.l++[Ct rd (am.y+am.ap.r.n) am.x]:=by rfl):
 cp g R (m+1) ⟨am,bk,false,ca,cl,bL,buf,e⟩∧ ∀r,some (n1 t s cut)=some r→bK.abs ⟨am,bk,false,ca,cl,bL,buf,e⟩=r:=by
 subst b;have h:=ak _ rfl
 have d:t.use=false:=by
  have i:=aV e7.use h
  cases d:t.use
  rfl
  rw[hZ,ay d,d] at i
  exact absurd i (by simp[bK.abs])
 have q: (fN am.ap.abs:Int)=am.ap.r.n:=by
  have u:=a.am.g.r.n
  show (am.ap.r.rows.length:Int)=_
  rw[lk];dsimp only at u
  omega
 refine⟨⟨a.am,a.bk,a.room,a.bL,a.cl,?_,by have:=a.buf;dsimp only at this ⊢;omega,?_,a.md⟩,λr v=>?_⟩;have:=a.be
 dsimp only at this ⊢
 rw[f,b8,iC];omega
 intro c b;dsimp only at b
 rw[f] at b
 rcases db.1 b with b | b
 exact a.aG c b;rw[ey.1 b];exact p
 cases v
 rw[Vy j k o d h];simp only[bK.abs,f];rw[←q];rfl
set_option maxHeartbeats 1000000 in
theorem VC [Inhabited bN] (w:World) (g par:Nat) (X:Chunk) (T:bK) (H:a8 w (bz g par X T)) {e:dV} (A:mg X e) {R:Int} {m:Nat} (a:cp g R m T) (Y:m≤900000000000):
 Calls prog 113 [ptr g,.agg e.enc.toArray].toArray w (mW g par X R (m+1) T (some (n1 T.abs e.text e.cut)) w):=by
 have B:=A.pf
 have p:=Os.UP e.text
 have C:e.text.length≤1000000:=by have:=A.ok.text;omega
 obtain⟨rd,i⟩ : ∃rd,rd=Os.ly e.text:=⟨_,rfl⟩;rw[←i] at p
 obtain⟨cut,j⟩ : ∃cut,e.cut=cut:=⟨_,rfl⟩;rw[j];refine bC func113 ntmps113 H ?_;obtain⟨am,bk,use,ca,cl,bL,buf,aG⟩:=T;cases use with
 | true=>
  refine ah ?_;intro I J K;refine aJ ?_;refine b6 rfl (λL=>?_) (λL=>?_);refine ah ?_;intro k b;exact aO.bQ ⟨am,bk,_,ca,cl,bL,buf,aG⟩ ⟨a.mono aa,λr d=>by cases d;rw[show cut=true from j.symm.trans bA,Jf]⟩ rfl (b.aw ae);refine al ?_;refine ao (v:= .agg rd.cells.toArray) rfl EB rfl (λc f=>by rw[i];exact Os.IZ c (B c (f.has eX)).os e.text C) ?_;refine ar ?_;intro D M N;refine bB ?_;refine aj (λaK=>?_) (λaK=>?_);have O:=aK
  refine aR ?_;intro k b;exact aO.bQ ⟨am,bk,_,ca,rd.text,bL,buf,aG⟩ ⟨⟨a.am,a.bk,a.room,a.bL,p,by have:=a.be;dsimp only at this ⊢;omega,by have:=a.buf;dsimp only at this ⊢;omega,a.aG,a.md⟩,λr d=>by cases d;rw[show cut=false from j.symm.trans bA,Jg i bA];rfl⟩ rfl (b.aw ae);have O:=aK
  refine al ?_;refine aX 25 rfl (λs=>?_) (λs=>?_);have P:=a1 s
  refine e4 ?_;intro k b;exact aO.bQ ⟨am,bk,_,ca,cl,bL,buf,aG⟩ ⟨a.mono aa,λr d=>by cases d;rw[show cut=false from j.symm.trans bA,Cu i bA (.inr rfl)]⟩ rfl (b.aw ae);have P:=bc s
  refine bI ?_;intro k b;exact aO.bQ ⟨am,bk,_,ca,cl,bL,buf,aG⟩ ⟨a.mono aa,λr d=>by cases d;rw[show cut=false from j.symm.trans bA,Cu i bA (.inr rfl)]⟩ rfl (b.aw ae)
 | false=>
  refine ah ?_;intro I J K;refine aJ ?_;refine b6 rfl (λQ=>?_) (λQ=>?_);refine ah ?_;intro k b;exact aO.bQ ⟨am,bk,_,ca,cl,bL,buf,aG⟩ ⟨a.mono aa,λr d=>by cases d;rw[show cut=true from j.symm.trans bA,Jf]⟩ rfl (b.aw ae);refine al ?_;refine ao (v:= .agg rd.cells.toArray) rfl EB rfl (λc f=>by rw[i];exact Os.IZ c (B c (f.has eX)).os e.text C) ?_;refine ar ?_;intro D M N;refine bB ?_;refine aj (λu=>?_) (λu=>?_);have S:=u
  refine aR ?_;intro k b;exact aO.bQ ⟨am,bk,_,ca,rd.text,bL,buf,aG⟩ ⟨⟨a.am,a.bk,a.room,a.bL,p,by have:=a.be;dsimp only at this ⊢;omega,by have:=a.buf;dsimp only at this ⊢;omega,a.aG,a.md⟩,λr d=>by cases d;rw[show cut=false from j.symm.trans bA,Jg i bA];rfl⟩ rfl (b.aw ae);have S:=u
  refine al ?_;refine aX 25 rfl (λz=>?_) (λz=>?_);have U:=a1 z
  refine e4 ?_;refine Vz rfl Es rfl (λc o=>Je c g par X _ o a aa) (λ⟨am,bk,use,ca,cl,bL,buf,aG⟩ a ak=>?_);obtain rfl:use=false:=aV e7.use (ak _ rfl)
  refine aD ?_;refine dt (q:=0) underlying75 pG rfl rfl rfl bb aa ?_;refine aq ?_;have Z:0≤am.y∧am.y≤1000:=by have F:=a.am.ok.y;have G:=s8 a.am.ok;simp only[bl.abs,bd.rows] at *;omega
  have Za:0≤am.ap.r.n∧am.ap.r.n≤100000:=by have F:=a.am.g.r.n;have G:=a.am.g.r.len;have V:=a.am.g.r.room;dsimp only at F G V;omega
  have Zb:aG.l.length≤m:=by have:=a.be;dsimp only at this;omega
  refine ax ?_;refine ao rfl ja rfl (λc f=>jp c am (f.eg (l:=aP am) hL Has.head)) ?_;refine j9 (t:=51) (off:=0) ab dN rfl rfl rfl ?_;refine ar ?_;intro W Zc Zd;refine aS ?_;refine bF [0,1,2] 3 [[(3,false,[]),(4,false,[5,6]),(7,true,[])]] ?_;refine ax ?_;refine ao rfl jV rfl (λc f=>j3 c am (f.eg (l:=aP am) hp Has.head)) ?_;refine ah ?_;refine ao rfl oz rfl (λc f=>oK c am.ap (f.eg (l:=aP am) hp (Has.tail Has.head)) ((f.eg (l:=aP am) hp (Has.tail (Has.tail Has.head)): (aU (cd am.ap.r)).pred c) am.ap.r.an av)) ?_;refine aR ?_;refine eq [0,1,2,3,4,5,6,7,8] 3 [[(9,false,[]),(10,false,[11,12]),(13,true,[])]] (_) mixed ab (λ_ b=>b.drew) (λ_ h=>(show af _ _ [aE W _ 51,aE D _ 163,eE g par _] _ from h.aw ae)) ?_;refine bp ?_;refine dG (E:=lv) ⟨_,_,_,_,_,_,_,_,_,_⟩ qT rfl rfl rfl rfl rfl (λZe Zf Zg=>?_);refine bV (λ_=>True) (λ_ h=> .inr (h.aw ae)) (λ_ h=>aT) ?_;refine aq ?_;refine ew (E:=lv) qT rfl rfl rfl bi (λ_ _=>FG) b7 b7 (λZh Zi=>?_);refine bV (λ_=>True) (λ_ h=> .inr ⟨.inr (h.aw ae),cz⟩) (λ_ h=>aT) ?_;refine aR ?_;intro k b
  (refine aO.bQ ⟨am,bk,false,ca,cl,bL,buf,⟨_,_,aG.l++[⟨true,rd.kind,rd.code,rd.has,rd.text,am.y+am.ap.r.n,am.x,0,0,0⟩]⟩⟩ ?_ rfl (b.aw ae);exact VB a ak i (j.symm.trans bA) bA bA p)
  have U:=bc z
  refine bI ?_;intro k b;exact aO.bQ ⟨am,bk,_,ca,cl,bL,buf,aG⟩ ⟨a.mono aa,λr d=>by cases d;rw[show cut=false from j.symm.trans bA,Cu i bA (.inl aa)]⟩ rfl (b.aw ae)
end
theorem VD [Inhabited bN] (s:List UInt8) (a:cW.iT) (t b:Int): (cW.rv s a (cW.eU t) (cW.eU b)).length≤1000:=by
 have c:=tJ (cW.eU t+1) (by have:=cW.l9 t;omega)
 have d:=tJ (cW.eU b+1) (by have:=cW.l9 b;omega)
 have e:=cW.Ir a
 unfold cW.rv;split
 split <;> simp <;> omega
 split <;> simp <;> omega
theorem VE [Inhabited bN] (w:World) (g par:Nat) (X:Chunk) (T:bK) (i:a8 w (bz g par X T)) {e:dV} (k:mg X e) {R:Int} {m:Nat} (c:cp g R m T) (x:m≤900000000000):
 Calls prog 114 [ptr g,.agg e.enc.toArray].toArray w (hy g par X R (m+1000) (.tuple #[]) T w):=by
 have n:=k.pf
 have p:=VD e.text (cW.W ⟨T.am.bf.at_.di,T.am.bf.at_.fn,T.am.bf.at_.an,T.am.bf.at_.aM,T.am.bf.at_.fl⟩)
 refine bC func114 ntmps114 i ?_;refine ah ?_;intro y z A;refine aL ?_;refine aX 8 rfl (λf=>?_) (λf=>?_);have q:=a1 f
 refine aL ?_;refine aX 13 rfl (λaK=>?_) (λaK=>?_);have r:=a1 aK
 refine aJ ?_;refine aj (λs=>?_) (λs=>?_);refine ah ?_;refine ao rfl fc rfl (λa d=>fe a g par T (d.has bH)) ?_;refine ao rfl ja rfl (λa d=>jp a T.am (d.eg (l:=aP T.am) cu Has.head)) ?_;refine ar ?_;intro B C D;refine eW zy rfl rfl (by rw[BM];exact bn.head) rfl (aH.cons rfl (aH.cons rfl (aH.cons rfl (aH.cons rfl (aH.cons rfl (aH.cons rfl (aH.cons rfl (aH.cons rfl (aH.cons rfl (gb rfl rfl rfl rfl rfl rfl rfl rfl rfl rfl)))))))))) (by exact dY rfl) ?_;refine aD ?_;refine cy (vs:=[.int .i64 T.am.bf.at_.di,.int .i64 T.am.bf.at_.fn,.int .i64 T.am.bf.at_.an,.int .i64 T.am.bf.at_.aM,.int .i64 T.am.bf.at_.fl]) si rfl rfl rfl (λE t j u v=>t.k5 (sz:=5) (o:=2) (xs:=tn T.am) aQ rfl j u v) ?_;refine aS ?_;refine ao rfl Nm rfl (λa d=>cW.T8 a (n a (d.has xa)).it e.text ⟨T.am.bf.at_.di,T.am.bf.at_.fn,T.am.bf.at_.an,T.am.bf.at_.aM,T.am.bf.at_.fl⟩ _ _) ?_;refine I2 rfl ni rfl (λa o=>nZ a g par X T o c _ aa (p _ _)) (λT c=>?_);refine aq ?_;intro h b;exact aN T (c.mono aa) b;refine aq ?_;intro h b;exact aN T (c.mono aa) b;have r:=bc aK
 refine aJ ?_;intro h b;exact aN T (c.mono aa) b;have q:=bc f
 refine b_ ?_;intro h b;exact aN T (c.mono aa) b
theorem VF [Inhabited bN] (w : World) (g par : Nat) (X : Chunk) (T : bK) (d : a8 w (bz g par X T)) {R : Int} {m : Nat} (a : cp g R m T) (e : m ≤ 900000000000) :
 Calls prog 64 [ptr g].toArray w (aO (fun i : bK × nR => i.2.val) (bz g par X T) (fun i => i.2.au :: bz g par X i.1) (fun i => cp g R m i.1 ∧ i.2.l = (hZ T.abs).aG ∧ i.1.abs = { hZ T.abs with aG := [] } ∧ i.2.l.length ≤ m ∧ ∀ c ∈ i.2.l, c.text.length ≤ 256) w) := by
 refine bC func64 ntmps64 d ?_
 refine e4 ?_
 refine VA rfl Es rfl (fun f o => Je f g par X _ o a e) (fun ⟨am, bk, use, ca, cl, bL, buf, aG⟩ a ak => ?_)
 have ak := ak _ rfl
 have b := a.be
 refine uN ?_
 intro j h
 refine aO.bQ (⟨am, bk, use, ca, cl, bL, buf, ⟨none, 0, []⟩⟩, aG) ⟨⟨a.am, a.bk, a.room, a.bL, a.cl, ?_, a.buf, by simp, a.md⟩, ?_, ?_, ?_, a.aG⟩ rfl ((h.eO 169 lv).aw ae)
 ·dsimp only [List.length_nil] at b ⊢; omega
 ·rw [← ak]; rfl
 ·rw [← ak]; rfl
 ·dsimp only at b ⊢; omega
def kg (k:Int):Option FuncId:=
 if k=0 then some 109 else if k=1 then some 110 else if k=2 then some 111 else if k=3 then some 112 else
 if k=4 then some 113 else if k=5 then some 114 else none
def mi (g:Nat) (k:Int):Value:=match kg k with | some f=> .func (.func f) [ptr g].toArray ([]:List Value).toArray | none=> .nilFunc
theorem Jh (w:World) (g:Nat) (k:Int):Calls prog 63 [ptr g,.int .i64 k].toArray w (Pure (mi g k) w):=by
 refine aW func63 ntmps63 ?_;refine e4 ?_;refine aj (λc=>?_) (λc=>?_);refine bp ?_;intro b a;refine⟨?_,a.ext⟩;congr 1
 unfold mi kg;simp_all
 refine al ?_;refine aj (λaK=>?_) (λaK=>?_);refine bp ?_;intro b a;refine⟨?_,a.ext⟩;congr 1
 unfold mi kg;simp_all
 refine al ?_;refine aj (λd=>?_) (λd=>?_);refine bp ?_;intro b a;refine⟨?_,a.ext⟩;congr 1
 unfold mi kg;simp_all
 refine al ?_;refine aj (λe=>?_) (λe=>?_);refine bp ?_;intro b a;refine⟨?_,a.ext⟩;congr 1
 unfold mi kg;simp_all
 refine al ?_;refine aj (λf=>?_) (λf=>?_);refine bp ?_;intro b a;refine⟨?_,a.ext⟩;congr 1
 unfold mi kg;simp_all
 refine al ?_;refine aj (λh=>?_) (λh=>?_);refine bp ?_;intro b a;refine⟨?_,a.ext⟩;congr 1
 unfold mi kg;simp_all
 refine aR ?_;intro b a;refine⟨?_,a.ext⟩;congr 1
 unfold mi kg;simp_all
def jO (t:e7) (e:gW):Option e7:=
 if e.kind=0 then some { t with am:=vl t.am e.r } else if e.kind=1 then yG t e.byte else if e.kind=4 then some (n1 t e.text e.cut) else
 if e.kind=2∨e.kind=3∨e.kind=5 then none else some t
theorem hy.te {g par:Nat} {X:Chunk} {R:Int} {m k:Nat} {T:bK} {w w':World} {e:Ending} {q:Option e7} (h:hy g par X R m (.tuple #[]) T w e w') (b:m≤k) (c:q=none):mW g par X R k T q w e w':=by
 obtain⟨i,hi,d,f⟩:=h;exact⟨i,⟨hi.mono b,λr a=>by rw[c] at a;cases a⟩,d,f⟩
theorem mW.mono {g par:Nat} {X:Chunk} {R:Int} {m k:Nat} {T:bK} {w w':World} {e:Ending} {q a:Option e7} (h:mW g par X R m T q w e w') (b:m≤k) (c:a=q):mW g par X R k T a w e w':=by
 subst c;obtain⟨i,hi,d,f⟩:=h;exact⟨i,⟨hi.1.mono b,hi.2⟩,d,f⟩
theorem VG [Inhabited bN] (w:World) (g par:Nat) (X:Chunk) (T:bK) (i:a8 w (bz g par X T)) {e:dV} (l:mg X e) {R:Int} {m:Nat} (j:cp g R m T) (p:m≤700000000000) {f:FuncId} (a:kg e.kind=some f):
 Calls prog f [ptr g,.agg e.enc.toArray].toArray w (mW g par X R (m+4000000) T (jO T.abs e.abs) w):=by
 unfold kg at a
 have k:e.abs.kind=e.kind:=rfl
 split at a
 rename_i h;cases a
 exact (Vw w g par X T i j aa e).mono (λ_ _ b=>b.mono aa (by rw[jO,k,ay h];rfl));split at a
 rename_i c h;cases a
 exact (Vx w g par X T i l.pf j aa e).mono (λ_ _ b=>b.mono aa (by rw[jO,k,ag c,ay h];rfl));split at a
 rename_i c d h;cases a
 exact (Vm w g par X T i l j aa).mono (λ_ _ b=>b.te aa (by rw[jO,k,ag c,ag d,ag aa,ay aa]));split at a
 rename_i c d b h;cases a
 exact (Vv w g par X T i l j aa).mono (λ_ _ b=>b.te aa (by rw[jO,k,ag c,ag d,ag aa,ay aa]));split at a
 rename_i c d b n h;cases a
 exact (VC w g par X T i l j aa).mono (λ_ _ b=>b.mono aa (by rw[jO,k,ag c,ag d,ay h];rfl));split at a
 rename_i c d b n o h;cases a
 exact (VE w g par X T i l j aa).mono (λ_ _ b=>b.te aa (by rw[jO,k,ag c,ag d,ag o,ay aa]));cases a
theorem VH {k:Int} {f:FuncId} (a:kg k=some f):ad prog f:=by
 unfold kg at a
 repeat' split at a
 all_goals cases a
 ·exact MO
 ·exact MP
 ·exact MQ
 ·exact MR
 ·exact MS
 ·exact MT
section
def Cv (most:Int) (s:fX × Int × e7) (c:UInt8):Option (fX × Int × e7):=
 (jo s.1 s.2.1 most c).bind λr=>(r.2.foldlM jO s.2.2).bind λt=>some (r.1.1,r.1.2,t)
def vM (p:cg) (t:e7) (L:List UInt8) (q:cg) (u:e7):Prop:=
 p.dec.jn=0→p.dec.l6=0→ ∀r,L.foldlM (Cv p.most) (p.h,p.state,t)=some r→q.dec=p.dec∧q.h=r.1∧q.state=r.2.1∧u=r.2.2
theorem vM.step {p q z:cg} {t u v:e7} {L:List UInt8} {c:UInt8} {cM:List gW} (h:vM p t L q u) (k:q.most=p.most) (l:iu q c z cM) (m: ∀r,cM.foldlM jO u=some r→v=r):vM p t (L++[c]) z v:=by
 intro f g r i;rw[List.foldlM_append] at i
 obtain⟨a,n,j⟩:=lL.1 i;obtain⟨e,o,s,w⟩:=h f g a n;simp only[List.foldlM_cons,List.foldlM_nil] at j
 obtain⟨y,b,A⟩:=lL.1 j;cases A
 unfold Cv at b
 obtain⟨x,B,b⟩:=lL.1 b;obtain⟨D,C,b⟩:=lL.1 b;cases b
 have d:=l.2 (by rw[e];exact f) (by rw[e];exact g) x (by rw[o,s,k];exact B)
 refine⟨d.1.trans e,d.2.1,d.2.2.1,m _ ?_⟩;rw[d.2.2.2,w];exact C
section
variable {P:Program} {n:Nat} {ops:Array Oper} {Q:cq} {rest:List Oper} {l:Fr} {d:Nat} {ty:TypeId} {pos:String} {a6:Array Edge}
variable {b:World} {S:List Nat} {cs cs':List Chunk} {ι:Type} {args:List Operand} {da:Array TypeId} {f:FuncId} {vs:List Value} {v:ι→Value} {l0:List Chunk} {ok:ι→Prop}
theorem Ji {H:World→Prop} {x y:Operand} {cv dD:TypeId} {a:Value} {r:Bool} (c: ∀w,(binOp .neq cv a .nilFunc).run P w= .ok (.bool r) w) (ak:Nat.blt d n=true) (e:ba l x=some a) (f:ba l y=some .nilFunc)
 (h:az P n ops Q rest ((d,.bool r)::l) H):az P n ops Q (⟨some d,.binOp .neq cv x y dD,ty,pos,a6,none⟩::rest) l H:=
 df _ ak (λg w b=>by
  have:=c w
  simp[execOp,b x _ e,b y _ f,eqGuard,this]) h
end
theorem VI [Inhabited bN] {X:Chunk} {x:gh} {e:dV} (a: ∀w,X.pred w→eh.pred w∧x.cj.pred w) (c: ∀k,k∈x.cj.cm→k∈X.cm) (b:e∈x.l) (d:l7 e):mg X e:=by
 refine⟨λw h=>(a w h).1.2,λw h=>?_,d⟩;have f:e.nums.aG.pred w:=(a w h).2 _ (dX.2 ⟨e,b,rfl⟩)
 exact f.2.dJ (λk g=>c k (e3.2 ⟨e.nums.aG,dX.2 ⟨e,b,rfl⟩,od.2 ⟨g.1,aa⟩⟩))
abbrev rB [Inhabited bN] (x:gh):Chunk:=aU [eh,x.cj]
abbrev fg [Inhabited bN] (p:cg) (g par:Nat) (T:bK):List Chunk:=aU (c_ p)::bz g par eh T
structure Fd (p:cg) (g par:Nat) (R:Int) (m:Nat) (T:bK) (L:List UInt8) (i:cg × bK):Prop where
 ap:i.1.g=p.g
 wf:fG i.1
 most:i.1.most=p.most
 ok:cp g R m i.2
 R:vM p T.abs L i.1 i.2.abs
theorem Fd.full {p:cg} {g par:Nat} {R:Int} {m n k:Nat} {T:bK} {L:List UInt8} {i:cg × bK} (h:Fd p g par R (m+8000000*k) T (L.take k) i) (a:k=n) (b:L.length=n):Fd p g par R (m+8000000*n) T L i:=by
 subst a;rw[ez aa] at h
 exact h
theorem VJ (w:World) (q:cg) {P:Nat} (a:P=q.g) (b:a8 w (c_ q)) (d:fG q) (c:UInt8):Calls prog 62 [ptr P,.int .u8 (c.toNat:Int)].toArray w (dH q 2 (iu q c) w):=by
 subst a;exact S7 w q b d c
theorem VK [Inhabited bN] {b w:World} {S:List Nat} {z:cg} {x:gh} {g par:Nat} {bu:bK} (h:af b S (aU (tj z x)::bz g par eh bu) w):af b S (aU (c_ z)::x.au::bz g par (rB x) bu) w:=
 (((h.open (l:=tj z x) bi).close (l:=c_ z) ae).close (l:=[eh,x.cj]) ae).aw ae
theorem VL [Inhabited bN] {b w:World} {S:List Nat} {z:cg} {x:gh} {g par:Nat} {bu:bK} (h:af b S (aU (c_ z)::x.au::bz g par (rB x) bu) w):af b S (fg z g par bu) w:=
 (h.open (l:=[eh,x.cj]) An).aw ae
theorem VM [Inhabited bN] {x:gh} {e:dV} (a:e∈x.l) (b:l7 e):mg (rB x) e:=
 VI (λw h=>⟨h eh av,h x.cj av⟩) (λk c=>e3.2 ⟨x.cj,by simp,c⟩) a b
theorem Jj {L:List gW} {j:Nat} {a:gW} (e:L[j]? = some a) {b v v2:e7} (f: ∀r,(L.take j).foldlM jO b=some r→v=r) (g: ∀r,jO v a=some r→v2=r): ∀r,(L.take (j+1)).foldlM jO b=some r→v2=r:=by
 intro r c;rw[gk,e,List.foldlM_append] at c
 obtain⟨u,h,d⟩:=lL.1 c;cases f u h
 simp only[pt,List.foldlM_cons,List.foldlM_nil] at d
 obtain⟨y,i,k⟩:=lL.1 d;cases k
 exact g _ i
theorem VN {t:e7} {e:dV} (h:kg e.kind=none):jO t e.abs=some t:=by
 have b:e.abs.kind=e.kind:=rfl
 unfold kg at h
 have a: ¬e.kind=0∧ ¬e.kind=1∧ ¬e.kind=2∧ ¬e.kind=3∧ ¬e.kind=4∧ ¬e.kind=5:=by
  refine⟨?_,?_,?_,?_,?_,?_⟩ <;> (intro c;simp[c] at h)
 rw[jO,b,ag a.1,ag a.2.1,ag a.2.2.2.2.1,ag aa]
set_option maxHeartbeats 1000000 in
theorem VO [Inhabited bN] (w:World) (g:Nat) (p:cg) (T:bK) (S:a8 w (fg p g p.g T)) (U:fG p) {R:Int} {m:Nat} (W:cp g R m T) (A:Option Addr) (n c:Nat) (L:List UInt8) (J:Rd cD w (λk=>k∉aA (fg p g p.g T)) A n c L) (Zm:n≤1000) (Zn:m≤100000000000):
 Calls prog 32 [ptr g,.slice A n c].toArray w (aO (λ_:cg × bK=> .tuple #[]) (fg p g p.g T) (λi=>fg i.1 g p.g i.2) (Fd p g p.g R (m+8000000*n) T L) w):=by
 have Zo:=J.len
 refine bC func32 ntmps32 S ?_;refine e4 ?_;refine b1 (ι:=Nat × cg × bK) (λt=>[(0,ptr g),(11,.slice A n c),(12,.int .i64 (n:Int)),(13,.int .i64 (t.1 :Int))]) (λt=>af w (aA (fg p g p.g T)) (fg t.2.1 g p.g t.2.2)) (λt=>t.1≤n∧Fd p g p.g R (m+8000000*t.1) T (L.take t.1) t.2) (λt=>n - t.1) ?_ ?_;exact λw' F=>⟨(0,p,T),⟨bP _,rfl,U,rfl,W,λ_ _ r b=>by simp at b;subst b;exact⟨rfl,rfl,rfl,rfl⟩⟩,(cw rfl rfl rfl rfl),F⟩
 rintro⟨i,q,bu⟩ ⟨hi,a⟩;dsimp only at hi a ⊢
 refine al ?_;refine aj (λX=>?_) (λX=>?_);obtain⟨Y,K⟩ : ∃v,L[i]? = some v:=⟨L[i]'aa,bG _⟩;obtain⟨b2,Z,Za,Zb⟩:=J.at_ K;refine al ?_;refine bw (q:=i) fk rfl rfl rfl Z rfl aa ?_;refine a7 zr rfl rfl (λZp Zc=>Zc.ct (Zb 0 _ rfl) (by simp only[block_add];exact Za)) ?_;refine aR ?_;refine kH (ι:=cg × gh) (l0:=c_ q) (l':=λi=>tj i.1 i.2) (cs1:=λi=>aU (tj i.1 i.2)::bz g p.g eh bu) (λi=>bn.head) rfl My rfl (λd s=>VJ d q a.ap.symm (s.kG Has.head) a.wf Y) (λ⟨z,x⟩ o=>?_);refine ax ?_;refine b1 (ι:=Nat × bK) (λt=>[(0,ptr g),(11,.slice A n c),(12,.int .i64 (n:Int)),(13,.int .i64 (i:Int)),(22,x.val),(23,.int .i64 (x.l.length:Int)),(24,.int .i64 (t.1 :Int))]) (λt=>af w (aA (fg p g p.g T)) (aU (c_ z)::x.au::bz g p.g (rB x) t.2)) (λt=>t.1≤x.l.length∧cp g R (m+8000000*i+4000000*t.1) t.2∧ ∀r,((x.l.map dV.abs).take t.1).foldlM jO bu.abs=some r→t.2.abs=r) (λt=>x.l.length - t.1) ?_ ?_;exact λw' F=>⟨(0,bu),⟨bP _,a.ok,λr b=>by simp at b;exact b⟩,(hq rfl rfl rfl rfl rfl rfl rfl),VK F⟩
 rintro⟨j,V⟩ ⟨y,D,B⟩;have Zq:x.l.length≤2:=o.len
 dsimp only at y D B ⊢
 refine al ?_;refine aj (λZd=>?_) (λZd=>?_);obtain⟨e,M⟩ : ∃e,x.l[j]? = some e:=⟨x.l[j]'aa,bG _⟩;have N:=dc M
 have Ze:=VM N (o.ok e N)
 have O: (x.l.map dV.abs)[j]? = some e.abs:=by rw[eJ,M];rfl
 cases C:kg e.kind with
 | none=>
  have G:mi g e.kind= .nilFunc:=by unfold mi;rw[C]
  refine al ?_;refine jm (E:=eP) bH gQ rfl rfl rfl bb aa (λZf H=>?_);refine cy DY rfl rfl rfl (λZg I j u y=>I.fO (E:=eP) bH H bA j u y) ?_;refine ar ?_;intro Zh Zi Zj;refine aL ?_;refine ao rfl Ei rfl (λd s=>(by have h:=Jh d g e.kind;rw[G] at h;exact h)) ?_;refine al ?_;refine Ji (r:=false) (λw=>by kernel_rfl) rfl rfl rfl ?_;refine aR ?_;exact bg (j+1,V) ⟨aa,D.mono bm,Jj O B (λr b=>by rw[VN C] at b;cases b;rfl)⟩ bm bR (λ_ h=>h.aw ae)
 | some f=>
  have G:mi g e.kind= .func (.func f) [ptr g].toArray ([]:List Value).toArray:=by unfold mi;rw[C]
  refine al ?_;refine jm (E:=eP) bH gQ rfl rfl rfl bb aa (λZf H=>?_);refine cy DY rfl rfl rfl (λZg I j u y=>I.fO (E:=eP) bH H bA j u y) ?_;refine ar ?_;intro Zh Zi Zj;refine aL ?_;refine ao rfl Ei rfl (λd s=>(by have h:=Jh d g e.kind;rw[G] at h;exact h)) ?_;refine al ?_;refine Ji (r:=true) (λw=>by kernel_rfl) rfl rfl rfl ?_;refine al ?_;refine lQ (ι:=bK) (v:=λ_=> .tuple #[]) (l0:=bz g p.g (rB x) V) (l':=bz g p.g (rB x)) (ok:=λP=>cp g R (m+8000000*i+4000000*j+4000000) P∧ ∀r,jO V.abs e.abs=some r→P.abs=r) ae rfl rfl (VH C) rfl (λd s=>VG d g p.g (rB x) V (s.bo ae) Ze D aa C) (λZk Q=>?_);refine aD ?_;exact bg (j+1,Zk) ⟨aa,Q.1.mono bm,Jj O B Q.2⟩ bm bR (λ_ h=>h.aw ae)
 refine aR ?_;exact bg (i+1,z,V) ⟨aa,o.g.trans a.ap,o.wf,o.most.trans a.most,D.mono aa,by rw[gk,K];exact a.R.step a.most o.R (by rw[ez (by simp;omega)] at B;exact B)⟩ bm bR (λ_ h=>VL h);refine ax ?_;intro Zr Zl;exact aN (q,bu) (a.full aa aa) Zl
end
end Go.Proofs.YtoghoobfpcadbaaGreatDoor.Mq
