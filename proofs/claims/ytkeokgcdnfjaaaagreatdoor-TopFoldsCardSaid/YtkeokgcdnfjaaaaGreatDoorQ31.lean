/- part 31 of the proof -/
import Derived.Test.YtkeokgcdnfjaaaaGreatDoorQ30
namespace Go.Proofs.YtkeokgcdnfjaaaaGreatDoor.Mq
open Go Go.RowKit Go.Proofs Tryz
section
structure e7 where
 am:bd
 bj:bd
 use:Bool
 b6:Nat
 cg:List UInt8
 buf:List UInt8
 aF:List lY
def bK.abs (t:bK):e7:=⟨t.am.abs,t.bj.abs,t.use,t.b6,t.cg,t.buf.l,t.aF.l⟩
def mS (g par:Nat) (X:Chunk) (R:Int) (m:Nat) (T:bK) (q:Option e7) (w:World):Ending→World→Prop:=aP (λ_:bK=> .tuple #[]) (bx g par X T) (bx g par X) (λbu=>cj g R m bu∧ ∀r,q=some r→bu.abs=r) w
section
variable {P:Program} {n:Nat} {ops:Array Oper} {Q:cl} {rest:List Oper} {l:Fr} {d:Nat} {ty:TypeId} {pos:String} {a6:Array Edge}
variable {b:World} {S:List Nat} {args:List Operand} {c_:Array TypeId} {f:FuncId} {vs:List Value} {v:Value} {g par k m p:Nat} {R:Int} {T:bK} {X eZ:Chunk} {q:bd}
theorem vy (e:cj g R m T) (i:cP k T.am.abs q) (ai:p=T.am.g) (ak:Nat.blt d n=true) (j:ad P f) (o:cH l args=some (ptr p::vs))
 (r: ∀w,bb w (aO T.am)→Calls P f (ptr T.am.g::vs).toArray w (eg T.am v q w))
 (h: ∀bu:bK,cj g R (m+k) bu→p=bu.am.g→kK T bu→bu.abs= { T.abs with am:=q }→bu.b6=T.b6→az P n ops Q rest ((d,v)::l) (af b S (eZ::bx g par X bu))):
 az P n ops Q (⟨some d,.call ⟨.value (.func f),args.toArray,c_⟩,ty,pos,a6,none⟩::rest) l (af b S (eZ::bx g par X T)):=by
 subst ai;refine kB (l0:=aO T.am) (l':=aO) (cs1:=λz=>[eZ,eI g par T,aT (aO z),aT (aO T.bj),T.buf.au,T.aF.au,X]) (λz=>bn.tail (bn.tail bn.head)) ak j o (λw s=>r w (s.kA (Has.tail (Has.tail Has.head)))) (λz a=>?_);have c:=h { T with am:=z } (e.ri (a.gV i)) a.g.symm ⟨rfl,a.g,rfl⟩ (by simp only[bK.abs,a.abs]) rfl
 simp only[bx] at c
 rw[rj a.g] at c
 exact c
end
theorem Vf [Inhabited et] (w:World) (g par:Nat) (X:Chunk) (T:bK) (c:bb w (bx g par X T)) {R:Int} {m:Nat} (a:cj g R m T) (l:m≤900000000000) (e:dR):
 Calls prog 109 [ptr g,.agg e.enc.toArray].toArray w (mS g par X R (m+2) T (some { T.abs with am:=u9 T.abs.am e.r }) w):=by
 refine bI func109 ntmps109 c ?_;refine ah ?_;intro n p q;refine ar ?_;refine bG [0,2,3] 2 [[(1,false,[]),(4,true,[])]] ?_;refine ay ?_;refine ao rfl fa rfl (λb d=>fc b g par T (d.has bF)) ?_;refine ah ?_;refine vy (k:=2) a (RS _ _) rfl rfl MW rfl (λb o=>RU b T.am o a.am.g a.am.ok (by have:=a.be;omega) _) (λbu f ai s h _=>?_);refine aS ?_;intro t i;exact aN bu ⟨f,λr j=>by cases j;exact h⟩ i
theorem Cl (w:World) (b:Nat) (c:b<4294967296) {a:Nat} {M:Bool} (d:b=a) (e:M=dt.rm a false 20):Calls prog 159 [dt.tk b,.bool false,.int .i64 20].toArray w (Pure (.bool M) w):=by
 subst d;subst e
 exact dt.qe w b c false 20
def yu (t:e7) (c:Int):Option e7:=if c=13 then some { t with am:={ t.am with x:=0 } } else if c=10∧dt.rm t.b6 false 20=false then some { t with am:=(iH t.am).1 } else none
theorem Vg [Inhabited et] (w:World) (g par:Nat) (X:Chunk) (T:bK) (H:bb w (bx g par X T)) (I:vt X) {R:Int} {m:Nat} (a:cj g R m T) (V:m≤900000000000) (e:dR):
 Calls prog 110 [ptr g,.agg e.enc.toArray].toArray w (mS g par X R (m+2) T (yu T.abs e.byte) w):=by
 obtain⟨M,z⟩ : ∃M,M=dt.rm T.b6 false 20:=⟨_,rfl⟩;have n: ∀c r,yu T.abs c=some r→(c=13∧{ T.abs with am:={ T.abs.am with x:=0 } } = r)∨(c=10∧M=false∧{ T.abs with am:=(iH T.abs.am).1 } = r):=λc r h=>by
  unfold yu at h
  split at h
  exact .inl ⟨bz,by injection h⟩;split at h
  rename_i d;exact .inr ⟨d.1,z.trans d.2,by injection h⟩;cases h
 refine bI func110 ntmps110 H ?_;refine ah ?_;intro W Y Z;refine ay ?_;refine ao rfl fa rfl (λb s=>fc b g par T (s.has bF)) ?_;refine dB ?_;refine aj (λJ=>?_) (λJ=>?_);refine ar ?_;refine eh (k:=0) a a7 rfl MX rfl (λb o x=>Tb o a.am) (λT a ai u=>?_);refine ah ?_;intro q f;exact aN T ⟨a.mono aa,λr i=>by rcases n _ _ i with ⟨j,d⟩ | ⟨j,d,p⟩ <;> (exfalso;omega)⟩ f;refine al ?_;refine aj (λaH=>?_) (λaH=>?_);refine ar ?_;refine eh (k:=0) a a7 rfl zI rfl (λb o x=>BS o a.am (λw' h=>(I w' (x w' h)).yn) _) (λT a ai u=>?_);refine ah ?_;intro q f;exact aN T ⟨a.mono aa,λr i=>by rcases n _ _ i with ⟨j,d⟩ | ⟨j,d,p⟩ <;> (exfalso;omega)⟩ f;refine aC ?_;refine aj (λA=>?_) (λA=>?_);have E:=A
 refine ar ?_;refine ev rfl ((b1 E)) ?_;refine ah ?_;refine vy (k:=2) a (sS _) rfl rfl up rfl (λb o=>xH b T.am o a.am.g a.am.ok (by have:=a.be;omega)) (λT a ai u B y=>?_);refine aK ?_;refine ao (v:= .bool M) rfl na rfl (λb s=>Cl b T.b6 a.md y z) ?_;refine ar ?_;refine b2 rfl (λK=>?_) (λK=>?_);refine ar ?_;refine eh (k:=0) a ai rfl qR rfl (λb o x=>th o a.am) (λT a ai u=>?_);refine ah ?_;intro q f;exact aN T ⟨a.mono aa,λr i=>by rcases n _ _ i with ⟨j,d⟩ | ⟨j,d,p⟩ <;> first | (exfalso;omega) | (exfalso;subst d;contradiction)⟩ f;refine ah ?_;intro q f;exact aN T ⟨a.mono aa,λr i=>by rcases n _ _ i with ⟨j,d⟩ | ⟨j,d,p⟩ <;> first | (exfalso;omega) | (subst p;exact B)⟩ f;have E:=A
 refine al ?_;refine aj (λC=>?_) (λC=>?_);have F:=C
 refine ar ?_;refine ev rfl ((b1 F)) ?_;refine ah ?_;refine vy (k:=2) a (sS _) rfl rfl up rfl (λb o=>xH b T.am o a.am.g a.am.ok (by have:=a.be;omega)) (λT a ai u B y=>?_);refine aK ?_;refine ao (v:= .bool M) rfl na rfl (λb s=>Cl b T.b6 a.md y z) ?_;refine ar ?_;refine b2 rfl (λL=>?_) (λL=>?_);refine ar ?_;refine eh (k:=0) a ai rfl qR rfl (λb o x=>th o a.am) (λT a ai u=>?_);refine ah ?_;intro q f;exact aN T ⟨a.mono aa,λr i=>by rcases n _ _ i with ⟨j,d⟩ | ⟨j,d,p⟩ <;> (exfalso;omega)⟩ f;refine ah ?_;intro q f;exact aN T ⟨a.mono aa,λr i=>by rcases n _ _ i with ⟨j,d⟩ | ⟨j,d,p⟩ <;> (exfalso;omega)⟩ f;have F:=C
 refine ay ?_;refine aj (λN=>?_) (λN=>?_);refine ah ?_;refine vy (k:=2) a (sS _) rfl rfl up rfl (λb o=>xH b T.am o a.am.g a.am.ok (by have:=a.be;omega)) (λT a ai u B y=>?_);refine aK ?_;refine ao (v:= .bool M) rfl na rfl (λb s=>Cl b T.b6 a.md y z) ?_;refine ar ?_;refine b2 rfl (λO=>?_) (λO=>?_);refine ar ?_;refine eh (k:=0) a ai rfl qR rfl (λb o x=>th o a.am) (λT a ai u=>?_);refine ah ?_;intro q f;exact aN T ⟨a.mono aa,λr i=>by rcases n _ _ i with ⟨j,d⟩ | ⟨j,d,p⟩ <;> (exfalso;omega)⟩ f;refine ah ?_;intro q f;exact aN T ⟨a.mono aa,λr i=>by rcases n _ _ i with ⟨j,d⟩ | ⟨j,d,p⟩ <;> (exfalso;omega)⟩ f;refine al ?_;refine aj (λP=>?_) (λP=>?_);refine ar ?_;refine vy (k:=0) a (sW _) rfl rfl qR rfl (λb o=>G2 b T.am o a.am.g) (λT a ai u Q _=>?_);refine ah ?_;intro q f;exact aN T ⟨a.mono aa,λr i=>by rcases n _ _ i with ⟨j,d⟩ | ⟨j,d,p⟩ <;> first | (exfalso;omega) | (subst d;exact Q)⟩ f;refine aC ?_;refine aj (λD=>?_) (λD=>?_);have G:=D
 refine ar ?_;refine ev rfl ((b1 G)) ?_;refine bG [0,1,4,5] 3 [[(2,false,[3]),(6,false,[]),(7,true,[])]] ?_;refine al ?_;refine ao rfl iZ rfl (λb s=>jl b T.am (s.ea (l:=aO T.am) cp Has.head)) ?_;refine aq ?_;refine aL rfl (λS n=>(j2 (t:=104) (off:=7) ab lF rfl rfl rfl aG)) ?_;refine ar ?_;refine ao rfl Ep rfl (λb s=>Hb b ⟨_,_,_,_,_,_⟩ _) ?_;refine ah ?_;refine eh (k:=0) a a7 rfl nb rfl (λb o x=>nM o a.am ⟨_,_,_,_,_,_⟩) (λT a ai u=>?_);refine ay ?_;intro q f;exact aN T ⟨a.mono aa,λr i=>by rcases n _ _ i with ⟨j,d⟩ | ⟨j,d,p⟩ <;> (exfalso;omega)⟩ f;have G:=D
 refine ay ?_;refine aj (λU=>?_) (λU=>?_);refine bG [0,1,4,5] 3 [[(2,false,[3]),(6,false,[]),(7,true,[])]] ?_;refine al ?_;refine ao rfl iZ rfl (λb s=>jl b T.am (s.ea (l:=aO T.am) cp Has.head)) ?_;refine aq ?_;refine aL rfl (λS n=>(j2 (t:=104) (off:=7) ab lF rfl rfl rfl aG)) ?_;refine ar ?_;refine ao rfl Ep rfl (λb s=>Hb b ⟨_,_,_,_,_,_⟩ _) ?_;refine ah ?_;refine eh (k:=0) a a7 rfl nb rfl (λb o x=>nM o a.am ⟨_,_,_,_,_,_⟩) (λT a ai u=>?_);refine ay ?_;intro q f;exact aN T ⟨a.mono aa,λr i=>by rcases n _ _ i with ⟨j,d⟩ | ⟨j,d,p⟩ <;> (exfalso;omega)⟩ f;refine ah ?_;intro q f;exact aN T ⟨a.mono aa,λr i=>by rcases n _ _ i with ⟨j,d⟩ | ⟨j,d,p⟩ <;> (exfalso;omega)⟩ f
end
abbrev kL (s:bk):bk:={ s with ap:={ s.ap with be:=⟨none,0,[]⟩ } }
theorem I6 {w:World} {s:bk} (b:bb w (aO s)):Calls prog 179 [ptr s.ap.g].toArray w (aP (λ_:Unit=>s.ap.be.val) (aO s) (λ_=>aO (kL s)++[s.ap.be.au]) (λ_=>True) w):=by
 have a:af w (aB (aO s)) (aO s) w:=b.start w rfl
 refine (S0 w s.ap (a.bp ae)).mono ?_;rintro e w' ⟨i,hi,rfl,c⟩;exact⟨(),aU,rfl,(a.pN ae c).aw ae⟩
def nT (s:ed):lY:=⟨false,0,0,false,[],0,0,s.kind,s.at_,s.n⟩
def im (t:e7):e7:=
 if t.use=true then { t with bj:={ t.bj with bC:={ t.bj.bC with f_:=[] } },aF:=t.aF++t.bj.bC.f_.map nT }
 else { t with am:={ t.am with bC:={ t.am.bC with f_:=[] } },aF:=t.aF++t.am.bC.f_.map nT }
theorem I7 (s:bk) (a:dS s):dS (kL s):=⟨⟨a.g.r,a.g.st,a.g.n⟩,⟨⟨a.ok.bC.cols,a.ok.bC.rows,a.ok.bC.wide,a.ok.bC.nv,a.ok.bC.room⟩,a.ok.y,a.ok.x,a.ok.top⟩,a.small⟩
theorem I8 [Inhabited et] (w : World) (g par : Nat) (X : Chunk) (T : bK) (F : bb w (bx g par X T)) {R : Int} {m : Nat} (a : cj g R m T) (Q : m ≤ 900000000000) :
 Calls prog 115 [ptr g].toArray w (mS g par X R m T (some (im T.abs)) w) := by
 obtain ⟨am, bj, use, b6, cg, bL, buf, aF⟩ := T
 have G := a.be
 dsimp only at G
 refine bI func115 ntmps115 F ?_
 cases use with
 | false =>
  refine ay ?_
  refine dq (q := 0) underlying88 pz rfl rfl rfl (by rfl) (by omega) ?_
  refine aq ?_
  refine ao rfl jO rfl (fun n b => jW n am (b.ea (l := aO am) bF Has.head)) ?_
  refine kB (l0 := aO am) (l' := fun _ : Unit => aO (kL am) ++ [am.ap.be.au]) (cs1 := fun _ => [eI g par ⟨am, bj, false, b6, cg, bL, buf, aF⟩, aT (aO (kL am) ++ [am.ap.be.au]), aT (aO bj), buf.au, aF.au, X]) (fun _ => bn.tail bn.head) rfl Et rfl (fun n b => I6 (b.kA (Has.tail Has.head))) (fun _ _ => ?_)
  refine ay ?_
  refine b3 (ι := Nat × nK) (fun t => [(0, ptr g), (10, am.ap.be.val), (11, .int .i64 (am.ap.be.l.length : Int)), (12, .int .i64 (t.1 : Int))]) (fun t => af w (aB (bx g par X ⟨am, bj, false, b6, cg, bL, buf, aF⟩)) (am.ap.be.au :: bx g par X ⟨kL am, bj, false, b6, cg, bL, buf, t.2⟩)) (fun t => t.1 ≤ am.ap.be.l.length ∧ t.2.l = aF.l ++ (am.ap.be.l.take t.1).map nT) (fun t => am.ap.be.l.length - t.1) ?_ ?_
  ·exact fun w' p => ⟨(0, aF), ⟨Nat.zero_le _, by simp⟩, (cu rfl rfl rfl rfl), by
    have f := (p.open (l := aO (kL am) ++ [am.ap.be.au]) cv)
    exact (f.close (l := aO (kL am)) ae).aw ae⟩
  ·rintro ⟨i, d⟩ ⟨hi, e⟩
   dsimp only at hi e ⊢
   have H : d.l.length = aF.l.length + i := by rw [e, List.length_append, List.length_map, List.length_take]; omega
   refine al ?_
   refine aj (fun v => ?_) (fun v => ?_)
   ·obtain ⟨s, y⟩ : ∃ s, am.ap.be.l[i]? = some s := ⟨am.ap.be.l[i]'(by omega), List.getElem?_eq_getElem _⟩
    obtain ⟨gV, j4, jC⟩ := s
    refine al ?_
    refine iL (E := jQ) aQ zm rfl rfl rfl (by rfl) (by omega) (fun I z => ?_)
    refine cw zo rfl rfl rfl (fun J f j u A => f.gx (E := jQ) aQ z (by assumption) j u A) ?_
    refine aq ?_
    intro B K L
    refine ah ?_
    refine ew [0, 1, 2, 3, 4, 5, 6] 3 [[(7, false, []), (8, false, [9, 10]), (11, true, [])]] (_) mixed (by kernel_rfl) (fun _ k => k.drew) (fun _ h => (show af _ _ [aD B _ 179, eI g par _] _ from h.aw ae)) ?_
    refine aJ ?_
    refine dx (E := lm) ⟨_, _, _, _, [], _, _, _, _, _⟩ qN rfl rfl rfl rfl rfl (fun M N O => ?_)
    refine bY (fun _ => True) (fun _ h => .inr (h.aw ae)) (fun _ h => trivial) ?_
    refine ar ?_
    refine er (E := lm) qN rfl rfl rfl bi (fun _ _ => uA) b4 b4 (fun S U => ?_)
    refine bY (fun _ => True) (fun _ h => .inr ⟨.inr (h.aw ae), (by trivial)⟩) (fun _ h => trivial) ?_
    refine b5 ?_
    exact bg (i + 1, ⟨_, _, d.l ++ [⟨false, 0, 0, false, [], 0, 0, gV, j4, jC⟩]⟩) ⟨by omega, by dsimp only; rw [e, List.take_add_one, y, List.append_assoc]; simp [nT]⟩ bm (cu rfl rfl rfl rfl) (fun _ h => h.aw ae)
   ·refine ay ?_
    intro P k
    have C : i = am.ap.be.l.length := by omega
    have o : d.l = aF.l ++ am.ap.be.l.map nT := by rw [e, C, List.take_length]
    refine aN ⟨kL am, bj, false, b6, cg, bL, buf, d⟩ ⟨⟨I7 _ a.am, a.bj, a.room, a.bL, a.cg, ?_, a.buf, ?_, a.md⟩, fun r D => ?_⟩ k
    ·dsimp only [List.length_nil]; omega
    ·intro c b; dsimp only at b; rw [o] at b; exact (List.mem_append.1 b).elim (a.aF c) (fun h => by obtain ⟨x, _, rfl⟩ := List.mem_map.1 h; simp [nT])
    ·cases D; simp only [bK.abs, im, o]; rfl
 | true =>
  refine ay ?_
  refine dq (q := 0) underlying88 pz rfl rfl rfl (by rfl) (by omega) ?_
  refine aq ?_
  refine ao rfl jO rfl (fun n b => jW n bj (b.ea (l := aO bj) cp Has.head)) ?_
  refine kB (l0 := aO bj) (l' := fun _ : Unit => aO (kL bj) ++ [bj.ap.be.au]) (cs1 := fun _ => [eI g par ⟨am, bj, true, b6, cg, bL, buf, aF⟩, aT (aO am), aT (aO (kL bj) ++ [bj.ap.be.au]), buf.au, aF.au, X]) (fun _ => bn.tail (bn.tail bn.head)) rfl Et rfl (fun n b => I6 (b.kA (Has.tail (Has.tail Has.head)))) (fun _ _ => ?_)
  refine ay ?_
  refine b3 (ι := Nat × nK) (fun t => [(0, ptr g), (10, bj.ap.be.val), (11, .int .i64 (bj.ap.be.l.length : Int)), (12, .int .i64 (t.1 : Int))]) (fun t => af w (aB (bx g par X ⟨am, bj, true, b6, cg, bL, buf, aF⟩)) (bj.ap.be.au :: bx g par X ⟨am, kL bj, true, b6, cg, bL, buf, t.2⟩)) (fun t => t.1 ≤ bj.ap.be.l.length ∧ t.2.l = aF.l ++ (bj.ap.be.l.take t.1).map nT) (fun t => bj.ap.be.l.length - t.1) ?_ ?_
  ·exact fun w' p => ⟨(0, aF), ⟨Nat.zero_le _, by simp⟩, (cu rfl rfl rfl rfl), by
    have f := (p.open (l := aO (kL bj) ++ [bj.ap.be.au]) pO)
    exact (f.close (l := aO (kL bj)) ae).aw ae⟩
  ·rintro ⟨i, d⟩ ⟨hi, e⟩
   dsimp only at hi e ⊢
   have H : d.l.length = aF.l.length + i := by rw [e, List.length_append, List.length_map, List.length_take]; omega
   refine al ?_
   refine aj (fun v => ?_) (fun v => ?_)
   ·obtain ⟨s, y⟩ : ∃ s, bj.ap.be.l[i]? = some s := ⟨bj.ap.be.l[i]'(by omega), List.getElem?_eq_getElem _⟩
    obtain ⟨gV, j4, jC⟩ := s
    refine al ?_
    refine iL (E := jQ) aQ zm rfl rfl rfl (by rfl) (by omega) (fun I z => ?_)
    refine cw zo rfl rfl rfl (fun J f j u A => f.gx (E := jQ) aQ z (by assumption) j u A) ?_
    refine aq ?_
    intro B K L
    refine ah ?_
    refine ew [0, 1, 2, 3, 4, 5, 6] 3 [[(7, false, []), (8, false, [9, 10]), (11, true, [])]] (_) mixed (by kernel_rfl) (fun _ k => k.drew) (fun _ h => (show af _ _ [aD B _ 179, eI g par _] _ from h.aw ae)) ?_
    refine aJ ?_
    refine dx (E := lm) ⟨_, _, _, _, [], _, _, _, _, _⟩ qN rfl rfl rfl rfl rfl (fun M N O => ?_)
    refine bY (fun _ => True) (fun _ h => .inr (h.aw ae)) (fun _ h => trivial) ?_
    refine ar ?_
    refine er (E := lm) qN rfl rfl rfl bi (fun _ _ => uA) b4 b4 (fun V W => ?_)
    refine bY (fun _ => True) (fun _ h => .inr ⟨.inr (h.aw ae), (by trivial)⟩) (fun _ h => trivial) ?_
    refine b5 ?_
    exact bg (i + 1, ⟨_, _, d.l ++ [⟨false, 0, 0, false, [], 0, 0, gV, j4, jC⟩]⟩) ⟨by omega, by dsimp only; rw [e, List.take_add_one, y, List.append_assoc]; simp [nT]⟩ bm (cu rfl rfl rfl rfl) (fun _ h => h.aw ae)
   ·refine ay ?_
    intro P k
    have C : i = bj.ap.be.l.length := by omega
    have o : d.l = aF.l ++ bj.ap.be.l.map nT := by rw [e, C, List.take_length]
    refine aN ⟨am, kL bj, true, b6, cg, bL, buf, d⟩ ⟨⟨a.am, I7 _ a.bj, a.room, a.bL, a.cg, ?_, a.buf, ?_, a.md⟩, fun r D => ?_⟩ k
    ·dsimp only [List.length_nil]; omega
    ·intro c b; dsimp only at b; rw [o] at b; exact (List.mem_append.1 b).elim (a.aF c) (fun h => by obtain ⟨x, _, rfl⟩ := List.mem_map.1 h; simp [nT])
    ·cases D; simp only [bK.abs, im, o]; rfl
section
def Cm (x:Os.lp) (y c:Int):lY:=⟨true,x.kind,x.code,x.has,x.text,y,c,0,0,0⟩
def nU (t:e7) (text:List UInt8) (cut:Bool):e7:=
 if cut=true then t else
 if (Os.lq text).kind=8 then { t with cg:=(Os.lq text).text } else
 if (Os.lq text).kind≠0∧t.use=false then { im t with aF:=(im t).aF++[Cm (Os.lq text) ((im t).am.y+fI (im t).am.bC) (im t).am.x] } else t
theorem I9 (t:e7) (s:List UInt8):nU t s true=t:=ax rfl
section
variable {t:e7} {s:List UInt8} {rd:Os.lp}
theorem I_ (a:rd=Os.lq s) (b:rd.kind=8):nU t s false= { t with cg:=rd.text }:=by
 subst a;rw[nU,ag a1,ax b]
theorem Cn (b:rd=Os.lq s) (c:rd.kind≠8) (h:rd.kind=0∨t.use=true):nU t s false=t:=by
 subst b;rw[nU,ag a1,ag c,ag (λa=>by rcases h with h | h;exact a.1 h;rw[h] at a;exact Bool.noConfusion a.2)]
theorem Vh (a:rd=Os.lq s) (b:rd.kind≠8) (c:rd.kind≠0) (e:t.use=false) {d:e7} (ak:d=im t):nU t s false= { d with aF:=d.aF++[Cm rd (d.am.y+fI d.am.bC) d.am.x] }:=by
 subst a;subst ak
 rw[nU,ag a1,ag b,ax ⟨c,e⟩]
end
section
variable {P:Program} {n:Nat} {ops:Array Oper} {Q:cl} {rest:List Oper} {l:Fr} {d:Nat} {ty:TypeId} {pos:String} {a6:Array Edge}
variable {b:World} {S:List Nat} {args:List Operand} {c_:Array TypeId} {f:FuncId} {vs:List Value} {g par m:Nat} {R:Int} {T:bK} {X eZ rr:Chunk} {q:Option e7}
theorem Vi (ak:Nat.blt d n=true) (c:ad P f) (j:cH l args=some vs)
 (k: ∀w,bb w (bx g par X T)→Calls P f vs.toArray w (mS g par X R m T q w))
 (h: ∀bu:bK,cj g R m bu→(∀r,q=some r→bu.abs=r)→az P n ops Q rest ((d,.tuple #[])::l) (af b S (eZ::rr::bx g par X bu))):
 az P n ops Q (⟨some d,.call ⟨.value (.func f),args.toArray,c_⟩,ty,pos,a6,none⟩::rest) l (af b S (eZ::rr::bx g par X T)):=by
 refine gJ rfl ak c j λw a=>?_
 have:=k w (a.bp ae)
 simp only[ir,iP];refine this.mono ?_;rintro e w' ⟨i,hi,rfl,o⟩;exact⟨.tuple #[],rfl,(h i hi.1 hi.2).at ((a.pN ae o).perm (n9 (l₁:=bx g par X i) (l₂:=[eZ,rr])))⟩
theorem Vj (ak:Nat.blt d n=true) (c:ad P f) (j:cH l args=some vs)
 (k: ∀w,bb w (bx g par X T)→Calls P f vs.toArray w (mS g par X R m T q w))
 (h: ∀bu:bK,cj g R m bu→(∀r,q=some r→bu.abs=r)→az P n ops Q rest ((d,.tuple #[])::l) (af b S (bx g par X bu))):
 az P n ops Q (⟨some d,.call ⟨.value (.func f),args.toArray,c_⟩,ty,pos,a6,none⟩::rest) l (af b S (bx g par X T)):=by
 refine gJ rfl ak c j λw a=>?_
 have:=k w (a.bp ae)
 simp only[ir,iP];refine this.mono ?_;rintro e w' ⟨i,hi,rfl,o⟩;exact⟨.tuple #[],rfl,(h i hi.1 hi.2).at (a.pN ae o)⟩
end
theorem Vk [Inhabited et] {g:Nat} {R:Int} {m:Nat} {am bj:bk} {b6:Nat} {cg:List UInt8} {bL:Option Addr} {buf:ij} {aF e:nK} {t:e7} {rd:Os.lp} {s:List UInt8} {cut:Bool} (a:cj g R m ⟨am,bj,false,b6,cg,bL,buf,aF⟩)
 (ak: ∀r,some (im t)=some r→bK.abs ⟨am,bj,false,b6,cg,bL,buf,aF⟩=r) (j:rd=Os.lq s) (b:cut=false) (k: ¬rd.kind=8) (o: ¬rd.kind=0) (p:rd.text.length≤256) (f:e.l=aF.l++[Cm rd (am.y+am.ap.r.n) am.x]:=by rfl):
 cj g R (m+1) ⟨am,bj,false,b6,cg,bL,buf,e⟩∧ ∀r,some (nU t s cut)=some r→bK.abs ⟨am,bj,false,b6,cg,bL,buf,e⟩=r:=by
 subst b;have h:=ak _ rfl
 have d:t.use=false:=by
  have i:=aX e7.use h
  cases d:t.use
  rfl
  rw[im,ax d,d] at i
  exact absurd i (by simp[bK.abs])
 have q: (fI am.ap.abs:Int)=am.ap.r.n:=by
  have u:=a.am.g.r.n
  show (am.ap.r.rows.length:Int)=_
  rw[lb];dsimp only at u
  omega
 refine⟨⟨a.am,a.bj,a.room,a.bL,a.cg,?_,by have:=a.buf;dsimp only at this ⊢;omega,?_,a.md⟩,λr v=>?_⟩;have:=a.be
 dsimp only at this ⊢
 rw[f,b0,iS];omega
 intro c b;dsimp only at b
 rw[f] at b
 rcases cX.1 b with b | b
 exact a.aF c b;rw[eL.1 b];exact p
 cases v
 rw[Vh j k o d h];simp only[bK.abs,f];rw[←q];rfl
set_option maxHeartbeats 1000000 in
theorem Vl [Inhabited et] (w:World) (g par:Nat) (X:Chunk) (T:bK) (H:bb w (bx g par X T)) {e:dR} (A:l9 X e) {R:Int} {m:Nat} (a:cj g R m T) (Y:m≤900000000000):
 Calls prog 113 [ptr g,.agg e.enc.toArray].toArray w (mS g par X R (m+1) T (some (nU T.abs e.text e.cut)) w):=by
 have B:=A.pa
 have p:=Os.Uy e.text
 have C:e.text.length≤1000000:=by have:=A.ok.text;omega
 obtain⟨rd,i⟩ : ∃rd,rd=Os.lq e.text:=⟨_,rfl⟩;rw[←i] at p
 obtain⟨cut,j⟩ : ∃cut,e.cut=cut:=⟨_,rfl⟩;rw[j];refine bI func113 ntmps113 H ?_;obtain⟨am,bj,use,b6,cg,bL,buf,aF⟩:=T;cases use with
 | true=>
  refine ah ?_;intro I J K;refine aJ ?_;refine b2 rfl (λL=>?_) (λL=>?_);refine ah ?_;intro k b;exact aP.bP ⟨am,bj,_,b6,cg,bL,buf,aF⟩ ⟨a.mono aa,λr d=>by cases d;rw[show cut=true from j.symm.trans bz,I9]⟩ rfl (b.aw ae);refine al ?_;refine ao (v:= .agg rd.cells.toArray) rfl Es rfl (λc f=>by rw[i];exact Os.IS c (B c (f.has eY)).os e.text C) ?_;refine aq ?_;intro D M N;refine bw ?_;refine aj (λaH=>?_) (λaH=>?_);have O:=aH
  refine aR ?_;intro k b;exact aP.bP ⟨am,bj,_,b6,rd.text,bL,buf,aF⟩ ⟨⟨a.am,a.bj,a.room,a.bL,p,by have:=a.be;dsimp only at this ⊢;omega,by have:=a.buf;dsimp only at this ⊢;omega,a.aF,a.md⟩,λr d=>by cases d;rw[show cut=false from j.symm.trans bz,I_ i bz];rfl⟩ rfl (b.aw ae);have O:=aH
  refine al ?_;refine aV 25 rfl (λs=>?_) (λs=>?_);have P:=aY s
  refine eT ?_;intro k b;exact aP.bP ⟨am,bj,_,b6,cg,bL,buf,aF⟩ ⟨a.mono aa,λr d=>by cases d;rw[show cut=false from j.symm.trans bz,Cn i bz (.inr rfl)]⟩ rfl (b.aw ae);have P:=a8 s
  refine bH ?_;intro k b;exact aP.bP ⟨am,bj,_,b6,cg,bL,buf,aF⟩ ⟨a.mono aa,λr d=>by cases d;rw[show cut=false from j.symm.trans bz,Cn i bz (.inr rfl)]⟩ rfl (b.aw ae)
 | false=>
  refine ah ?_;intro I J K;refine aJ ?_;refine b2 rfl (λQ=>?_) (λQ=>?_);refine ah ?_;intro k b;exact aP.bP ⟨am,bj,_,b6,cg,bL,buf,aF⟩ ⟨a.mono aa,λr d=>by cases d;rw[show cut=true from j.symm.trans bz,I9]⟩ rfl (b.aw ae);refine al ?_;refine ao (v:= .agg rd.cells.toArray) rfl Es rfl (λc f=>by rw[i];exact Os.IS c (B c (f.has eY)).os e.text C) ?_;refine aq ?_;intro D M N;refine bw ?_;refine aj (λu=>?_) (λu=>?_);have S:=u
  refine aR ?_;intro k b;exact aP.bP ⟨am,bj,_,b6,rd.text,bL,buf,aF⟩ ⟨⟨a.am,a.bj,a.room,a.bL,p,by have:=a.be;dsimp only at this ⊢;omega,by have:=a.buf;dsimp only at this ⊢;omega,a.aF,a.md⟩,λr d=>by cases d;rw[show cut=false from j.symm.trans bz,I_ i bz];rfl⟩ rfl (b.aw ae);have S:=u
  refine al ?_;refine aV 25 rfl (λz=>?_) (λz=>?_);have U:=aY z
  refine eT ?_;refine Vi rfl Ek rfl (λc o=>I8 c g par X _ o a aa) (λ⟨am,bj,use,b6,cg,bL,buf,aF⟩ a ak=>?_);obtain rfl:use=false:=aX e7.use (ak _ rfl)
  refine aC ?_;refine dq (q:=0) underlying88 pz rfl rfl rfl a7 aa ?_;refine ar ?_;have Z:0≤am.y∧am.y≤1000:=by have F:=a.am.ok.y;have G:=sY a.am.ok;simp only[bk.abs,bd.rows] at *;omega
  have Za:0≤am.ap.r.n∧am.ap.r.n≤100000:=by have F:=a.am.g.r.n;have G:=a.am.g.r.len;have V:=a.am.g.r.room;dsimp only at F G V;omega
  have Zb:aF.l.length≤m:=by have:=a.be;dsimp only at this;omega
  refine ay ?_;refine ao rfl iZ rfl (λc f=>jl c am (f.ea (l:=aO am) hD Has.head)) ?_;refine j2 (t:=40) (off:=0) ab em rfl rfl rfl ?_;refine aq ?_;intro W Zc Zd;refine aS ?_;refine bG [0,1,2] 3 [[(3,false,[]),(4,false,[5,6]),(7,true,[])]] ?_;refine ay ?_;refine ao rfl jO rfl (λc f=>jW c am (f.ea (l:=aO am) iz Has.head)) ?_;refine ah ?_;refine ao rfl ou rfl (λc f=>oF c am.ap (f.ea (l:=aO am) iz (Has.tail Has.head)) ((f.ea (l:=aO am) iz (Has.tail (Has.tail Has.head)): (aT (b9 am.ap.r)).pred c) am.ap.r.an av)) ?_;refine aR ?_;refine ew [0,1,2,3,4,5,6,7,8] 3 [[(9,false,[]),(10,false,[11,12]),(13,true,[])]] (_) mixed ab (λ_ b=>b.drew) (λ_ h=>(show af _ _ [aD W _ 40,aD D _ 175,eI g par _] _ from h.aw ae)) ?_;refine bo ?_;refine dx (E:=lm) ⟨_,_,_,_,_,_,_,_,_,_⟩ qN rfl rfl rfl rfl rfl (λZe Zf Zg=>?_);refine bY (λ_=>True) (λ_ h=> .inr (h.aw ae)) (λ_ h=>aU) ?_;refine ar ?_;refine er (E:=lm) qN rfl rfl rfl bi (λ_ _=>Fx) b4 b4 (λZh Zi=>?_);refine bY (λ_=>True) (λ_ h=> .inr ⟨.inr (h.aw ae),dj⟩) (λ_ h=>aU) ?_;refine aR ?_;intro k b
  (refine aP.bP ⟨am,bj,false,b6,cg,bL,buf,⟨_,_,aF.l++[⟨true,rd.kind,rd.code,rd.has,rd.text,am.y+am.ap.r.n,am.x,0,0,0⟩]⟩⟩ ?_ rfl (b.aw ae);exact Vk a ak i (j.symm.trans bz) bz bz p)
  have U:=a8 z
  refine bH ?_;intro k b;exact aP.bP ⟨am,bj,_,b6,cg,bL,buf,aF⟩ ⟨a.mono aa,λr d=>by cases d;rw[show cut=false from j.symm.trans bz,Cn i bz (.inl aa)]⟩ rfl (b.aw ae)
end
theorem Vm [Inhabited et] (s:List UInt8) (a:cS.iK) (t b:Int): (cS.ro s a (cS.eV t) (cS.eV b)).length≤1000:=by
 have c:=tB (cS.eV t+1) (by have:=cS.lZ t;omega)
 have d:=tB (cS.eV b+1) (by have:=cS.lZ b;omega)
 have e:=cS.Ik a
 unfold cS.ro;split
 split <;> simp <;> omega
 split <;> simp <;> omega
theorem Vn [Inhabited et] (w:World) (g par:Nat) (X:Chunk) (T:bK) (i:bb w (bx g par X T)) {e:dR} (k:l9 X e) {R:Int} {m:Nat} (c:cj g R m T) (x:m≤900000000000):
 Calls prog 114 [ptr g,.agg e.enc.toArray].toArray w (hn g par X R (m+1000) (.tuple #[]) T w):=by
 have n:=k.pa
 have p:=Vm e.text (cS.W ⟨T.am.bf.at_.dg,T.am.bf.at_.fn,T.am.bf.at_.an,T.am.bf.at_.aM,T.am.bf.at_.fl⟩)
 refine bI func114 ntmps114 i ?_;refine ah ?_;intro y z A;refine aK ?_;refine aV 8 rfl (λf=>?_) (λf=>?_);have q:=aY f
 refine aK ?_;refine aV 13 rfl (λaH=>?_) (λaH=>?_);have r:=aY aH
 refine aJ ?_;refine aj (λs=>?_) (λs=>?_);refine ah ?_;refine ao rfl fa rfl (λa d=>fc a g par T (d.has bF)) ?_;refine ao rfl iZ rfl (λa d=>jl a T.am (d.ea (l:=aO T.am) cp Has.head)) ?_;refine aq ?_;intro B C D;refine eX zq rfl rfl (by rw[BF];exact bn.head) rfl (aI.cons rfl (aI.cons rfl (aI.cons rfl (aI.cons rfl (aI.cons rfl (aI.cons rfl (aI.cons rfl (aI.cons rfl (aI.cons rfl (fY rfl rfl rfl rfl rfl rfl rfl rfl rfl rfl)))))))))) (by exact dT rfl) ?_;refine aC ?_;refine cw (vs:=[.int .i64 T.am.bf.at_.dg,.int .i64 T.am.bf.at_.fn,.int .i64 T.am.bf.at_.an,.int .i64 T.am.bf.at_.aM,.int .i64 T.am.bf.at_.fl]) r_ rfl rfl rfl (λE t j u v=>t.kY (sz:=5) (o:=2) (xs:=td T.am) aQ rfl j u v) ?_;refine aS ?_;refine ao rfl M5 rfl (λa d=>cS.TR a (n a (d.has w1)).it e.text ⟨T.am.bf.at_.dg,T.am.bf.at_.fn,T.am.bf.at_.an,T.am.bf.at_.aM,T.am.bf.at_.fl⟩ _ _) ?_;refine IV rfl nc rfl (λa o=>nS a g par X T o c _ aa (p _ _)) (λT c=>?_);refine ar ?_;intro h b;exact aN T (c.mono aa) b;refine ar ?_;intro h b;exact aN T (c.mono aa) b;have r:=a8 aH
 refine aJ ?_;intro h b;exact aN T (c.mono aa) b;have q:=a8 f
 refine b5 ?_;intro h b;exact aN T (c.mono aa) b
theorem Vo [Inhabited et] (w : World) (g par : Nat) (X : Chunk) (T : bK) (d : bb w (bx g par X T)) {R : Int} {m : Nat} (a : cj g R m T) (e : m ≤ 900000000000) :
 Calls prog 71 [ptr g].toArray w (aP (fun i : bK × nK => i.2.val) (bx g par X T) (fun i => i.2.au :: bx g par X i.1) (fun i => cj g R m i.1 ∧ i.2.l = (im T.abs).aF ∧ i.1.abs = { im T.abs with aF := [] } ∧ i.2.l.length ≤ m ∧ ∀ c ∈ i.2.l, c.text.length ≤ 256) w) := by
 refine bI func71 ntmps71 d ?_
 refine eT ?_
 refine Vj rfl Ek rfl (fun f o => I8 f g par X _ o a e) (fun ⟨am, bj, use, b6, cg, bL, buf, aF⟩ a ak => ?_)
 have ak := ak _ rfl
 have b := a.be
 refine qX ?_
 intro j h
 refine aP.bP (⟨am, bj, use, b6, cg, bL, buf, ⟨none, 0, []⟩⟩, aF) ⟨⟨a.am, a.bj, a.room, a.bL, a.cg, ?_, a.buf, by simp, a.md⟩, ?_, ?_, ?_, a.aF⟩ rfl ((h.eO 181 lm).aw ae)
 ·dsimp only [List.length_nil] at b ⊢; omega
 ·rw [← ak]; rfl
 ·rw [← ak]; rfl
 ·dsimp only at b ⊢; omega
def j_ (k:Int):Option FuncId:=
 if k=0 then some 109 else if k=1 then some 110 else if k=2 then some 111 else if k=3 then some 112 else
 if k=4 then some 113 else if k=5 then some 114 else none
def ma (g:Nat) (k:Int):Value:=match j_ k with | some f=> .func (.func f) [ptr g].toArray ([]:List Value).toArray | none=> .nilFunc
theorem Ja (w:World) (g:Nat) (k:Int):Calls prog 70 [ptr g,.int .i64 k].toArray w (Pure (ma g k) w):=by
 refine aW func70 ntmps70 ?_;refine eT ?_;refine aj (λc=>?_) (λc=>?_);refine bo ?_;intro b a;refine⟨?_,a.ext⟩;congr 1
 unfold ma j_;simp_all
 refine al ?_;refine aj (λaH=>?_) (λaH=>?_);refine bo ?_;intro b a;refine⟨?_,a.ext⟩;congr 1
 unfold ma j_;simp_all
 refine al ?_;refine aj (λd=>?_) (λd=>?_);refine bo ?_;intro b a;refine⟨?_,a.ext⟩;congr 1
 unfold ma j_;simp_all
 refine al ?_;refine aj (λe=>?_) (λe=>?_);refine bo ?_;intro b a;refine⟨?_,a.ext⟩;congr 1
 unfold ma j_;simp_all
 refine al ?_;refine aj (λf=>?_) (λf=>?_);refine bo ?_;intro b a;refine⟨?_,a.ext⟩;congr 1
 unfold ma j_;simp_all
 refine al ?_;refine aj (λh=>?_) (λh=>?_);refine bo ?_;intro b a;refine⟨?_,a.ext⟩;congr 1
 unfold ma j_;simp_all
 refine aR ?_;intro b a;refine⟨?_,a.ext⟩;congr 1
 unfold ma j_;simp_all
def jG (t:e7) (e:gU):Option e7:=
 if e.kind=0 then some { t with am:=u9 t.am e.r } else if e.kind=1 then yu t e.byte else if e.kind=4 then some (nU t e.text e.cut) else
 if e.kind=2∨e.kind=3∨e.kind=5 then none else some t
theorem hn.te {g par:Nat} {X:Chunk} {R:Int} {m k:Nat} {T:bK} {w w':World} {e:Ending} {q:Option e7} (h:hn g par X R m (.tuple #[]) T w e w') (b:m≤k) (c:q=none):mS g par X R k T q w e w':=by
 obtain⟨i,hi,d,f⟩:=h;exact⟨i,⟨hi.mono b,λr a=>by rw[c] at a;cases a⟩,d,f⟩
theorem mS.mono {g par:Nat} {X:Chunk} {R:Int} {m k:Nat} {T:bK} {w w':World} {e:Ending} {q a:Option e7} (h:mS g par X R m T q w e w') (b:m≤k) (c:a=q):mS g par X R k T a w e w':=by
 subst c;obtain⟨i,hi,d,f⟩:=h;exact⟨i,⟨hi.1.mono b,hi.2⟩,d,f⟩
theorem Vp [Inhabited et] (w:World) (g par:Nat) (X:Chunk) (T:bK) (i:bb w (bx g par X T)) {e:dR} (l:l9 X e) {R:Int} {m:Nat} (j:cj g R m T) (p:m≤700000000000) {f:FuncId} (a:j_ e.kind=some f):
 Calls prog f [ptr g,.agg e.enc.toArray].toArray w (mS g par X R (m+4000000) T (jG T.abs e.abs) w):=by
 unfold j_ at a
 have k:e.abs.kind=e.kind:=rfl
 split at a
 rename_i h;cases a
 exact (Vf w g par X T i j aa e).mono (λ_ _ b=>b.mono aa (by rw[jG,k,ax h];rfl));split at a
 rename_i c h;cases a
 exact (Vg w g par X T i l.pa j aa e).mono (λ_ _ b=>b.mono aa (by rw[jG,k,ag c,ax h];rfl));split at a
 rename_i c d h;cases a
 exact (U6 w g par X T i l j aa).mono (λ_ _ b=>b.te aa (by rw[jG,k,ag c,ag d,ag aa,ax aa]));split at a
 rename_i c d b h;cases a
 exact (Ve w g par X T i l j aa).mono (λ_ _ b=>b.te aa (by rw[jG,k,ag c,ag d,ag aa,ax aa]));split at a
 rename_i c d b n h;cases a
 exact (Vl w g par X T i l j aa).mono (λ_ _ b=>b.mono aa (by rw[jG,k,ag c,ag d,ax h];rfl));split at a
 rename_i c d b n o h;cases a
 exact (Vn w g par X T i l j aa).mono (λ_ _ b=>b.te aa (by rw[jG,k,ag c,ag d,ag o,ax aa]));cases a
theorem Vq {k:Int} {f:FuncId} (a:j_ k=some f):ad prog f:=by
 unfold j_ at a
 repeat' split at a
 all_goals cases a
 ·exact MB
 ·exact MC
 ·exact MD
 ·exact ME
 ·exact MF
 ·exact MG
section
def Co (most:Int) (s:fQ × Int × e7) (c:UInt8):Option (fQ × Int × e7):=
 (jk s.1 s.2.1 most c).bind λr=>(r.2.foldlM jG s.2.2).bind λt=>some (r.1.1,r.1.2,t)
def vz (p:cb) (t:e7) (L:List UInt8) (q:cb) (u:e7):Prop:=
 p.dec.jj=0→p.dec.lV=0→ ∀r,L.foldlM (Co p.most) (p.h,p.state,t)=some r→q.dec=p.dec∧q.h=r.1∧q.state=r.2.1∧u=r.2.2
theorem vz.step {p q z:cb} {t u v:e7} {L:List UInt8} {c:UInt8} {cH:List gU} (h:vz p t L q u) (k:q.most=p.most) (l:ik q c z cH) (m: ∀r,cH.foldlM jG u=some r→v=r):vz p t (L++[c]) z v:=by
 intro f g r i;rw[List.foldlM_append] at i
 obtain⟨a,n,j⟩:=lD.1 i;obtain⟨e,o,s,w⟩:=h f g a n;simp only[List.foldlM_cons,List.foldlM_nil] at j
 obtain⟨y,b,A⟩:=lD.1 j;cases A
 unfold Co at b
 obtain⟨x,B,b⟩:=lD.1 b;obtain⟨D,C,b⟩:=lD.1 b;cases b
 have d:=l.2 (by rw[e];exact f) (by rw[e];exact g) x (by rw[o,s,k];exact B)
 refine⟨d.1.trans e,d.2.1,d.2.2.1,m _ ?_⟩;rw[d.2.2.2,w];exact C
section
variable {P:Program} {n:Nat} {ops:Array Oper} {Q:cl} {rest:List Oper} {l:Fr} {d:Nat} {ty:TypeId} {pos:String} {a6:Array Edge}
variable {b:World} {S:List Nat} {cs cs':List Chunk} {ι:Type} {args:List Operand} {c_:Array TypeId} {f:FuncId} {vs:List Value} {v:ι→Value} {l0:List Chunk} {ok:ι→Prop}
theorem Jb {H:World→Prop} {x y:Operand} {cn du:TypeId} {a:Value} {r:Bool} (c: ∀w,(binOp .neq cn a .nilFunc).run P w= .ok (.bool r) w) (ak:Nat.blt d n=true) (e:a_ l x=some a) (f:a_ l y=some .nilFunc)
 (h:az P n ops Q rest ((d,.bool r)::l) H):az P n ops Q (⟨some d,.binOp .neq cn x y du,ty,pos,a6,none⟩::rest) l H:=
 da _ ak (λg w b=>by
  have:=c w
  simp[execOp,b x _ e,b y _ f,eqGuard,this]) h
end
theorem Vr [Inhabited et] {X:Chunk} {x:gd} {e:dR} (a: ∀w,X.pred w→d_.pred w∧x.cc.pred w) (c: ∀k,k∈x.cc.ce→k∈X.ce) (b:e∈x.l) (d:lW e):l9 X e:=by
 refine⟨λw h=>(a w h).1.2,λw h=>?_,d⟩;have f:e.nums.aF.pred w:=(a w h).2 _ (dF.2 ⟨e,b,rfl⟩)
 exact f.2.dC (λk g=>c k (e4.2 ⟨e.nums.aF,dF.2 ⟨e,b,rfl⟩,n8.2 ⟨g.1,aa⟩⟩))
abbrev rt [Inhabited et] (x:gd):Chunk:=aT [d_,x.cc]
abbrev fe [Inhabited et] (p:cb) (g par:Nat) (T:bK):List Chunk:=aT (c7 p)::bx g par d_ T
structure Fd (p:cb) (g par:Nat) (R:Int) (m:Nat) (T:bK) (L:List UInt8) (i:cb × bK):Prop where
 ap:i.1.g=p.g
 wf:fD i.1
 most:i.1.most=p.most
 ok:cj g R m i.2
 R:vz p T.abs L i.1 i.2.abs
theorem Fd.full {p:cb} {g par:Nat} {R:Int} {m n k:Nat} {T:bK} {L:List UInt8} {i:cb × bK} (h:Fd p g par R (m+8000000*k) T (L.take k) i) (a:k=n) (b:L.length=n):Fd p g par R (m+8000000*n) T L i:=by
 subst a;rw[eu aa] at h
 exact h
theorem Vs (w:World) (q:cb) {P:Nat} (a:P=q.g) (b:bb w (c7 q)) (d:fD q) (c:UInt8):Calls prog 69 [ptr P,.int .u8 (c.toNat:Int)].toArray w (dy q 2 (ik q c) w):=by
 subst a;exact SQ w q b d c
theorem Vt [Inhabited et] {b w:World} {S:List Nat} {z:cb} {x:gd} {g par:Nat} {bu:bK} (h:af b S (aT (s_ z x)::bx g par d_ bu) w):af b S (aT (c7 z)::x.au::bx g par (rt x) bu) w:=
 (((h.open (l:=s_ z x) bi).close (l:=c7 z) ae).close (l:=[d_,x.cc]) ae).aw ae
theorem Vu [Inhabited et] {b w:World} {S:List Nat} {z:cb} {x:gd} {g par:Nat} {bu:bK} (h:af b S (aT (c7 z)::x.au::bx g par (rt x) bu) w):af b S (fe z g par bu) w:=
 (h.open (l:=[d_,x.cc]) Af).aw ae
theorem Vv [Inhabited et] {x:gd} {e:dR} (a:e∈x.l) (b:lW e):l9 (rt x) e:=
 Vr (λw h=>⟨h d_ av,h x.cc av⟩) (λk c=>e4.2 ⟨x.cc,by simp,c⟩) a b
theorem Jc {L:List gU} {j:Nat} {a:gU} (e:L[j]? = some a) {b v v2:e7} (f: ∀r,(L.take j).foldlM jG b=some r→v=r) (g: ∀r,jG v a=some r→v2=r): ∀r,(L.take (j+1)).foldlM jG b=some r→v2=r:=by
 intro r c;rw[fU,e,List.foldlM_append] at c
 obtain⟨u,h,d⟩:=lD.1 c;cases f u h
 simp only[pm,List.foldlM_cons,List.foldlM_nil] at d
 obtain⟨y,i,k⟩:=lD.1 d;cases k
 exact g _ i
theorem Vw {t:e7} {e:dR} (h:j_ e.kind=none):jG t e.abs=some t:=by
 have b:e.abs.kind=e.kind:=rfl
 unfold j_ at h
 have a: ¬e.kind=0∧ ¬e.kind=1∧ ¬e.kind=2∧ ¬e.kind=3∧ ¬e.kind=4∧ ¬e.kind=5:=by
  refine⟨?_,?_,?_,?_,?_,?_⟩ <;> (intro c;simp[c] at h)
 rw[jG,b,ag a.1,ag a.2.1,ag a.2.2.2.2.1,ag aa]
set_option maxHeartbeats 1000000 in
theorem Vx [Inhabited et] (w:World) (g:Nat) (p:cb) (T:bK) (S:bb w (fe p g p.g T)) (U:fD p) {R:Int} {m:Nat} (W:cj g R m T) (A:Option Addr) (n c:Nat) (L:List UInt8) (J:Rd cy w (λk=>k∉aB (fe p g p.g T)) A n c L) (Zm:n≤1000) (Zn:m≤100000000000):
 Calls prog 38 [ptr g,.slice A n c].toArray w (aP (λ_:cb × bK=> .tuple #[]) (fe p g p.g T) (λi=>fe i.1 g p.g i.2) (Fd p g p.g R (m+8000000*n) T L) w):=by
 have Zo:=J.len
 refine bI func38 ntmps38 S ?_;refine eT ?_;refine b3 (ι:=Nat × cb × bK) (λt=>[(0,ptr g),(11,.slice A n c),(12,.int .i64 (n:Int)),(13,.int .i64 (t.1 :Int))]) (λt=>af w (aB (fe p g p.g T)) (fe t.2.1 g p.g t.2.2)) (λt=>t.1≤n∧Fd p g p.g R (m+8000000*t.1) T (L.take t.1) t.2) (λt=>n - t.1) ?_ ?_;exact λw' F=>⟨(0,p,T),⟨bN _,rfl,U,rfl,W,λ_ _ r b=>by simp at b;subst b;exact⟨rfl,rfl,rfl,rfl⟩⟩,(cu rfl rfl rfl rfl),F⟩
 rintro⟨i,q,bu⟩ ⟨hi,a⟩;dsimp only at hi a ⊢
 refine al ?_;refine aj (λX=>?_) (λX=>?_);obtain⟨Y,K⟩ : ∃v,L[i]? = some v:=⟨L[i]'aa,bE _⟩;obtain⟨bX,Z,Za,Zb⟩:=J.at_ K;refine al ?_;refine bD (q:=i) fi rfl rfl rfl Z rfl aa ?_;refine ba zi rfl rfl (λZp Zc=>Zc.ct (Zb 0 _ rfl) (by simp only[block_add];exact Za)) ?_;refine aR ?_;refine kB (ι:=cb × gd) (l0:=c7 q) (l':=λi=>s_ i.1 i.2) (cs1:=λi=>aT (s_ i.1 i.2)::bx g p.g d_ bu) (λi=>bn.head) rfl Mn rfl (λd s=>Vs d q a.ap.symm (s.kA Has.head) a.wf Y) (λ⟨z,x⟩ o=>?_);refine ay ?_;refine b3 (ι:=Nat × bK) (λt=>[(0,ptr g),(11,.slice A n c),(12,.int .i64 (n:Int)),(13,.int .i64 (i:Int)),(22,x.val),(23,.int .i64 (x.l.length:Int)),(24,.int .i64 (t.1 :Int))]) (λt=>af w (aB (fe p g p.g T)) (aT (c7 z)::x.au::bx g p.g (rt x) t.2)) (λt=>t.1≤x.l.length∧cj g R (m+8000000*i+4000000*t.1) t.2∧ ∀r,((x.l.map dR.abs).take t.1).foldlM jG bu.abs=some r→t.2.abs=r) (λt=>x.l.length - t.1) ?_ ?_;exact λw' F=>⟨(0,bu),⟨bN _,a.ok,λr b=>by simp at b;exact b⟩,(hE rfl rfl rfl rfl rfl rfl rfl),Vt F⟩
 rintro⟨j,V⟩ ⟨y,D,B⟩;have Zq:x.l.length≤2:=o.len
 dsimp only at y D B ⊢
 refine al ?_;refine aj (λZd=>?_) (λZd=>?_);obtain⟨e,M⟩ : ∃e,x.l[j]? = some e:=⟨x.l[j]'aa,bE _⟩;have N:=c8 M
 have Ze:=Vv N (o.ok e N)
 have O: (x.l.map dR.abs)[j]? = some e.abs:=by rw[eJ,M];rfl
 cases C:j_ e.kind with
 | none=>
  have G:ma g e.kind= .nilFunc:=by unfold ma;rw[C]
  refine al ?_;refine iL (E:=eP) bF gM rfl rfl rfl a7 aa (λZf H=>?_);refine cw DR rfl rfl rfl (λZg I j u y=>I.gx (E:=eP) bF H bz j u y) ?_;refine aq ?_;intro Zh Zi Zj;refine aK ?_;refine ao rfl Eb rfl (λd s=>(by have h:=Ja d g e.kind;rw[G] at h;exact h)) ?_;refine al ?_;refine Jb (r:=false) (λw=>by kernel_rfl) rfl rfl rfl ?_;refine aR ?_;exact bg (j+1,V) ⟨aa,D.mono bm,Jc O B (λr b=>by rw[Vw C] at b;cases b;rfl)⟩ bm bO (λ_ h=>h.aw ae)
 | some f=>
  have G:ma g e.kind= .func (.func f) [ptr g].toArray ([]:List Value).toArray:=by unfold ma;rw[C]
  refine al ?_;refine iL (E:=eP) bF gM rfl rfl rfl a7 aa (λZf H=>?_);refine cw DR rfl rfl rfl (λZg I j u y=>I.gx (E:=eP) bF H bz j u y) ?_;refine aq ?_;intro Zh Zi Zj;refine aK ?_;refine ao rfl Eb rfl (λd s=>(by have h:=Ja d g e.kind;rw[G] at h;exact h)) ?_;refine al ?_;refine Jb (r:=true) (λw=>by kernel_rfl) rfl rfl rfl ?_;refine al ?_;refine lI (ι:=bK) (v:=λ_=> .tuple #[]) (l0:=bx g p.g (rt x) V) (l':=bx g p.g (rt x)) (ok:=λP=>cj g R (m+8000000*i+4000000*j+4000000) P∧ ∀r,jG V.abs e.abs=some r→P.abs=r) ae rfl rfl (Vq C) rfl (λd s=>Vp d g p.g (rt x) V (s.bp ae) Ze D aa C) (λZk Q=>?_);refine aC ?_;exact bg (j+1,Zk) ⟨aa,Q.1.mono bm,Jc O B Q.2⟩ bm bO (λ_ h=>h.aw ae)
 refine aR ?_;exact bg (i+1,z,V) ⟨aa,o.g.trans a.ap,o.wf,o.most.trans a.most,D.mono aa,by rw[fU,K];exact a.R.step a.most o.R (by rw[eu (by simp;omega)] at B;exact B)⟩ bm bO (λ_ h=>Vu h);refine ay ?_;intro Zr Zl;exact aN (q,bu) (a.full aa aa) Zl
end
abbrev pb (g:Nat) (most:Int):cb:=⟨g,0,lU,lU,lU,0,false,false,most,0,⟨0,0,0,0,0⟩⟩
theorem Vy {g:Nat} {n:Int} (h:1≤n∧n≤65536):fD (pb g n):=⟨by simp,by simp,by simp;omega,h,⟨by simp,by simp⟩,by simp⟩
theorem Vz (w:World) (n:Int) (h:1≤n∧n≤65536):Calls prog 67 [.int .i64 n].toArray w
 (aP (λg:Nat=> .tuple #[gi g,.int .i64 0]) [] (λg=>c7 (pb g n)) (λ_=>True) w):=by
 refine aW func67 ntmps67 ?_;refine bw ?_;refine aV 6 rfl (λa=>?_) (λa=>?_);have d:=aY a
 refine cE ?_;intro c b
 (exfalso;omega)
 have d:=a8 a
 refine aC ?_;refine aj (λaH=>?_) (λaH=>?_);refine aJ ?_;intro c b
 (exfalso;omega)
 refine aC ?_;intro e f i;refine al ?_;intro c b;exact aP.bP e aU rfl (b.Bt ae)
def yv (rows cols lines:Int):e7:=⟨lX rows cols lines,lX rows cols 0,false,dt.o6,[],[],[]⟩
theorem Jd {s:bk} {rows cols lines:Int} (b:1≤rows∧rows≤100) (c:2≤cols∧cols≤100) (d:0≤lines∧lines≤100) (h:dO s∧s.abs=lX rows cols lines):dS s:=by
 refine⟨h.1,by rw[h.2];exact S7 ⟨b.1,aa⟩ ⟨c.1,aa⟩ ⟨d.1,aa⟩,?_,?_,?_⟩;have a: (bW s.ap.s.l).length=_:=aX (λq=>q.bC.cF.length) h.2
 rw[bW,cN] at a
 rw[a];simp only[lX,o1,g_];omega
 have a:s.ap.cols=cols:=aX (λq=>q.bC.cols) h.2
 omega
 have a:s.ap.r.room=lines:=aX (λq=>q.bC.room) h.2
 omega
theorem Je {s:bk} {rows cols lines:Int} (h:s.abs=lX rows cols lines):s.ap.be.l=[]:=aX (λq=>q.bC.f_) h
set_option maxHeartbeats 1000000 in
theorem VA [Inhabited et] (w:World) (rows cols lines n:Int) (c:1≤rows∧rows≤100) (b:2≤cols∧cols≤100) (h:0≤lines∧lines≤100) (k:1≤n∧n≤65536):Calls prog 35 [.int .i64 rows,.int .i64 cols,.int .i64 lines,.int .i64 n].toArray w
 (aP (λi:Nat × Nat × bK=> .tuple #[ptr i.1,.int .i64 0]) [] (λi=>[aT (c7 (pb i.2.1 n)),eI i.1 i.2.1 i.2.2,aT (aO i.2.2.am),aT (aO i.2.2.bj),i.2.2.buf.au,i.2.2.aF.au]) (λi=>cj i.1 lines 0 i.2.2∧i.2.2.abs=yv rows cols lines) w):=by
 refine aW func35 ntmps35 ?_;refine bo ?_;refine aZ (l0:=[]) aA.nil rfl Ea rfl (λa _=>HP a rows cols lines ⟨c.1,aa⟩ ⟨b.1,aa⟩ ⟨h.1,aa⟩) (λs1 d=>?_);refine aR ?_;refine aZ (l0:=[]) aA.nil rfl Mm rfl (λa _=>Vz a n k) (λap _=>?_);refine bH ?_;refine aV 30 rfl (λe=>?_) (λe=>?_);have m:=aY e
 refine cE ?_;intro j f
 (exfalso;omega)
 have m:=a8 e
 refine aC ?_;refine aj (λaH=>?_) (λaH=>?_);refine aJ ?_;intro j f
 (exfalso;omega)
 refine al ?_;refine aZ (l0:=[]) aA.nil rfl Ea rfl (λa _=>HP a rows cols 0 ⟨c.1,aa⟩ ⟨b.1,aa⟩ ⟨a1,a1⟩) (λs2 g=>?_);refine bH ?_;refine ao rfl zw rfl (λa b=>dt.uY a) ?_;refine ar ?_;intro o p s;refine al ?_;intro j f;exact aP.bP (o,ap,⟨s1,s2,false,dt.o6,[],none,⟨none,0,[]⟩,⟨none,0,[]⟩⟩) ⟨⟨Jd c b h d,Jd c b ⟨a1,a1⟩ g,(aX (λq=>q.bC.room) d.2 :s1.ap.r.room=lines),.inl rfl,by simp,by rw[Je d.2,Je g.2];simp,by simp,by simp,show dt.o6<4294967296 by decide⟩,by simp only[bK.abs,d.2,g.2];rfl⟩ rfl (((((f.close (l:=aO s2) ae).close (l:=c7 (pb ap n)) ae).close (l:=aO s1) ae).eO 5 cy).eO 181 lm |>.aw ae)
end Go.Proofs.YtkeokgcdnfjaaaaGreatDoor.Mq
