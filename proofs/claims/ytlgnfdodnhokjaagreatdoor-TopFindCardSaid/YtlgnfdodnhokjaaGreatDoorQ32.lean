/- part 32 of the proof -/
import Derived.Test.YtlgnfdodnhokjaaGreatDoorQ31
namespace Go.Proofs.YtlgnfdodnhokjaaGreatDoor.Mq
open Go Go.RowKit Go.Proofs Tryz
section
structure fc where
 am:be
 bk:be
 use:Bool
 b8:Nat
 cm:List UInt8
 buf:List UInt8
 aF:List me
def bL.abs (t:bL):fc:=⟨t.am.abs,t.bk.abs,t.use,t.b8,t.cm,t.buf.l,t.aF.l⟩
def nb (g par:Nat) (X:Chunk) (R:Int) (m:Nat) (T:bL) (q:Option fc) (w:World):Ending→World→Prop:=aP (λ_:bL=> .tuple #[]) (bz g par X T) (bz g par X) (λbu=>cp g R m bu∧ ∀r,q=some r→bu.abs=r) w
section
variable {P:Program} {n:Nat} {ops:Array Oper} {Q:cq} {rest:List Oper} {l:Fr} {d:Nat} {ty:TypeId} {pos:String} {a7:Array Edge}
variable {b:World} {S:List Nat} {args:List Operand} {db:Array TypeId} {f:FuncId} {vs:List Value} {v:Value} {g par k m p:Nat} {R:Int} {T:bL} {X e7:Chunk} {q:be}
theorem vW (e:cp g R m T) (i:cS k T.am.abs q) (ai:p=T.am.g) (ak:Nat.blt d n=true) (j:ad P f) (o:cI l args=some (ptr p::vs))
 (r: ∀w,a8 w (aO T.am)→Calls P f (ptr T.am.g::vs).toArray w (eo T.am v q w))
 (h: ∀bu:bL,cp g R (m+k) bu→p=bu.am.g→kV T bu→bu.abs= { T.abs with am:=q }→bu.b8=T.b8→az P n ops Q rest ((d,v)::l) (af b S (e7::bz g par X bu))):
 az P n ops Q (⟨some d,.call ⟨.value (.func f),args.toArray,db⟩,ty,pos,a7,none⟩::rest) l (af b S (e7::bz g par X T)):=by
 subst ai;refine kM (l0:=aO T.am) (l':=aO) (cs1:=λz=>[e7,eN g par T,aR (aO z),aR (aO T.bk),T.buf.au,T.aF.au,X]) (λz=>bn.tail (bn.tail bn.head)) ak j o (λw s=>r w (s.kL (Has.tail (Has.tail Has.head)))) (λz a=>?_);have c:=h { T with am:=z } (e.rB (a.hd i)) a.g.symm ⟨rfl,a.g,rfl⟩ (by simp only[bL.abs,a.abs]) rfl
 simp only[bz] at c
 rw[rC a.g] at c
 exact c
end
theorem Wc [Inhabited bO] (w:World) (g par:Nat) (X:Chunk) (T:bL) (c:a8 w (bz g par X T)) {R:Int} {m:Nat} (a:cp g R m T) (l:m≤900000000000) (e:dT):
 Calls prog 119 [ptr g,.agg e.enc.toArray].toArray w (nb g par X R (m+2) T (some { T.abs with am:=vx T.abs.am e.r }) w):=by
 refine bI func119 ntmps119 c ?_;refine ah ?_;intro n p q;refine aq ?_;refine bF [0,2,3] 2 [[(1,false,[]),(4,true,[])]] ?_;refine ay ?_;refine ao rfl fh rfl (λb d=>fk b g par T (d.has bJ)) ?_;refine ah ?_;refine vW (k:=2) a (SP _ _) rfl rfl NO rfl (λb o=>SR b T.am o a.am.g a.am.ok (by have:=a.bf;omega) _) (λbu f ai s h _=>?_);refine aS ?_;intro t i;exact aN bu ⟨f,λr j=>by cases j;exact h⟩ i
theorem CI (w:World) (b:Nat) (c:b<4294967296) {a:Nat} {M:Bool} (d:b=a) (e:M=du.rF a false 20):Calls prog 168 [du.tI b,.bool false,.int .i64 20].toArray w (Pure (.bool M) w):=by
 subst d;subst e
 exact du.qs w b c false 20
def yS (t:fc) (c:Int):Option fc:=if c=13 then some { t with am:={ t.am with x:=0 } } else if c=10∧du.rF t.b8 false 20=false then some { t with am:=(iS t.am).1 } else none
theorem Wd [Inhabited bO] (w:World) (g par:Nat) (X:Chunk) (T:bL) (H:a8 w (bz g par X T)) (I:vR X) {R:Int} {m:Nat} (a:cp g R m T) (V:m≤900000000000) (e:dT):
 Calls prog 120 [ptr g,.agg e.enc.toArray].toArray w (nb g par X R (m+2) T (yS T.abs e.byte) w):=by
 obtain⟨M,z⟩ : ∃M,M=du.rF T.b8 false 20:=⟨_,rfl⟩;have n: ∀c r,yS T.abs c=some r→(c=13∧{ T.abs with am:={ T.abs.am with x:=0 } } = r)∨(c=10∧M=false∧{ T.abs with am:=(iS T.abs.am).1 } = r):=λc r h=>by
  unfold yS at h
  split at h
  exact .inl ⟨bv,by injection h⟩;split at h
  rename_i d;exact .inr ⟨d.1,z.trans d.2,by injection h⟩;cases h
 refine bI func120 ntmps120 H ?_;refine ah ?_;intro W Y Z;refine ay ?_;refine ao rfl fh rfl (λb s=>fk b g par T (s.has bJ)) ?_;refine dB ?_;refine aj (λJ=>?_) (λJ=>?_);refine aq ?_;refine ep (k:=0) a bc rfl NP rfl (λb o x=>T9 o a.am) (λT a ai u=>?_);refine ah ?_;intro q f;exact aN T ⟨a.mono aa,λr i=>by rcases n _ _ i with ⟨j,d⟩ | ⟨j,d,p⟩ <;> (exfalso;omega)⟩ f;refine al ?_;refine aj (λaH=>?_) (λaH=>?_);refine aq ?_;refine ep (k:=0) a bc rfl z7 rfl (λb o x=>Ce o a.am (λw' h=>(I w' (x w' h)).yL) _) (λT a ai u=>?_);refine ah ?_;intro q f;exact aN T ⟨a.mono aa,λr i=>by rcases n _ _ i with ⟨j,d⟩ | ⟨j,d,p⟩ <;> (exfalso;omega)⟩ f;refine aC ?_;refine aj (λA=>?_) (λA=>?_);have E:=A
 refine aq ?_;refine eE rfl ((bX E)) ?_;refine ah ?_;refine vW (k:=2) a (td _) rfl rfl uK rfl (λb o=>x5 b T.am o a.am.g a.am.ok (by have:=a.bf;omega)) (λT a ai u B y=>?_);refine aK ?_;refine ao (v:= .bool M) rfl nr rfl (λb s=>CI b T.b8 a.md y z) ?_;refine aq ?_;refine b1 rfl (λK=>?_) (λK=>?_);refine aq ?_;refine ep (k:=0) a ai rfl q8 rfl (λb o x=>tG o a.am) (λT a ai u=>?_);refine ah ?_;intro q f;exact aN T ⟨a.mono aa,λr i=>by rcases n _ _ i with ⟨j,d⟩ | ⟨j,d,p⟩ <;> first | (exfalso;omega) | (exfalso;subst d;contradiction)⟩ f;refine ah ?_;intro q f;exact aN T ⟨a.mono aa,λr i=>by rcases n _ _ i with ⟨j,d⟩ | ⟨j,d,p⟩ <;> first | (exfalso;omega) | (subst p;exact B)⟩ f;have E:=A
 refine al ?_;refine aj (λC=>?_) (λC=>?_);have F:=C
 refine aq ?_;refine eE rfl ((bX F)) ?_;refine ah ?_;refine vW (k:=2) a (td _) rfl rfl uK rfl (λb o=>x5 b T.am o a.am.g a.am.ok (by have:=a.bf;omega)) (λT a ai u B y=>?_);refine aK ?_;refine ao (v:= .bool M) rfl nr rfl (λb s=>CI b T.b8 a.md y z) ?_;refine aq ?_;refine b1 rfl (λL=>?_) (λL=>?_);refine aq ?_;refine ep (k:=0) a ai rfl q8 rfl (λb o x=>tG o a.am) (λT a ai u=>?_);refine ah ?_;intro q f;exact aN T ⟨a.mono aa,λr i=>by rcases n _ _ i with ⟨j,d⟩ | ⟨j,d,p⟩ <;> (exfalso;omega)⟩ f;refine ah ?_;intro q f;exact aN T ⟨a.mono aa,λr i=>by rcases n _ _ i with ⟨j,d⟩ | ⟨j,d,p⟩ <;> (exfalso;omega)⟩ f;have F:=C
 refine ay ?_;refine aj (λN=>?_) (λN=>?_);refine ah ?_;refine vW (k:=2) a (td _) rfl rfl uK rfl (λb o=>x5 b T.am o a.am.g a.am.ok (by have:=a.bf;omega)) (λT a ai u B y=>?_);refine aK ?_;refine ao (v:= .bool M) rfl nr rfl (λb s=>CI b T.b8 a.md y z) ?_;refine aq ?_;refine b1 rfl (λO=>?_) (λO=>?_);refine aq ?_;refine ep (k:=0) a ai rfl q8 rfl (λb o x=>tG o a.am) (λT a ai u=>?_);refine ah ?_;intro q f;exact aN T ⟨a.mono aa,λr i=>by rcases n _ _ i with ⟨j,d⟩ | ⟨j,d,p⟩ <;> (exfalso;omega)⟩ f;refine ah ?_;intro q f;exact aN T ⟨a.mono aa,λr i=>by rcases n _ _ i with ⟨j,d⟩ | ⟨j,d,p⟩ <;> (exfalso;omega)⟩ f;refine al ?_;refine aj (λP=>?_) (λP=>?_);refine aq ?_;refine vW (k:=0) a (tj _) rfl rfl q8 rfl (λb o=>HO b T.am o a.am.g) (λT a ai u Q _=>?_);refine ah ?_;intro q f;exact aN T ⟨a.mono aa,λr i=>by rcases n _ _ i with ⟨j,d⟩ | ⟨j,d,p⟩ <;> first | (exfalso;omega) | (subst d;exact Q)⟩ f;refine aC ?_;refine aj (λD=>?_) (λD=>?_);have G:=D
 refine aq ?_;refine eE rfl ((bX G)) ?_;refine bF [0,1,4,5] 3 [[(2,false,[3]),(6,false,[]),(7,true,[])]] ?_;refine al ?_;refine ao rfl jf rfl (λb s=>ju b T.am (s.ed (l:=aO T.am) cr Has.head)) ?_;refine ar ?_;refine aL rfl (λS n=>(kd (t:=128) (off:=7) ab lR rfl rfl rfl aG)) ?_;refine aq ?_;refine ao rfl ES rfl (λb s=>HY b ⟨_,_,_,_,_,_⟩ _) ?_;refine ah ?_;refine ep (k:=0) a bc rfl ns rfl (λb o x=>n3 o a.am ⟨_,_,_,_,_,_⟩) (λT a ai u=>?_);refine ay ?_;intro q f;exact aN T ⟨a.mono aa,λr i=>by rcases n _ _ i with ⟨j,d⟩ | ⟨j,d,p⟩ <;> (exfalso;omega)⟩ f;have G:=D
 refine ay ?_;refine aj (λU=>?_) (λU=>?_);refine bF [0,1,4,5] 3 [[(2,false,[3]),(6,false,[]),(7,true,[])]] ?_;refine al ?_;refine ao rfl jf rfl (λb s=>ju b T.am (s.ed (l:=aO T.am) cr Has.head)) ?_;refine ar ?_;refine aL rfl (λS n=>(kd (t:=128) (off:=7) ab lR rfl rfl rfl aG)) ?_;refine aq ?_;refine ao rfl ES rfl (λb s=>HY b ⟨_,_,_,_,_,_⟩ _) ?_;refine ah ?_;refine ep (k:=0) a bc rfl ns rfl (λb o x=>n3 o a.am ⟨_,_,_,_,_,_⟩) (λT a ai u=>?_);refine ay ?_;intro q f;exact aN T ⟨a.mono aa,λr i=>by rcases n _ _ i with ⟨j,d⟩ | ⟨j,d,p⟩ <;> (exfalso;omega)⟩ f;refine ah ?_;intro q f;exact aN T ⟨a.mono aa,λr i=>by rcases n _ _ i with ⟨j,d⟩ | ⟨j,d,p⟩ <;> (exfalso;omega)⟩ f
end
abbrev kW (s:bl):bl:={ s with ap:={ s.ap with bf:=⟨none,0,[]⟩ } }
theorem JR {w:World} {s:bl} (b:a8 w (aO s)):Calls prog 188 [ptr s.ap.g].toArray w (aP (λ_:Unit=>s.ap.bf.val) (aO s) (λ_=>aO (kW s)++[s.ap.bf.au]) (λ_=>True) w):=by
 have a:af w (aB (aO s)) (aO s) w:=b.start w rfl
 refine (TX w s.ap (a.bo ae)).mono ?_;rintro e w' ⟨i,hi,rfl,c⟩;exact⟨(),a1,rfl,(a.pZ ae c).ax ae⟩
def oa (s:eh):me:=⟨false,0,0,false,[],0,0,s.kind,s.at_,s.n⟩
def iw (t:fc):fc:=
 if t.use=true then { t with bk:={ t.bk with bD:={ t.bk.bD with gi:=[] } },aF:=t.aF++t.bk.bD.gi.map oa }
 else { t with am:={ t.am with bD:={ t.am.bD with gi:=[] } },aF:=t.aF++t.am.bD.gi.map oa }
theorem JS (s:bl) (a:dU s):dU (kW s):=⟨⟨a.g.r,a.g.st,a.g.n⟩,⟨⟨a.ok.bD.cols,a.ok.bD.rows,a.ok.bD.wide,a.ok.bD.nM,a.ok.bD.room⟩,a.ok.y,a.ok.x,a.ok.top⟩,a.small⟩
theorem JT [Inhabited bO] (w : World) (g par : Nat) (X : Chunk) (T : bL) (F : a8 w (bz g par X T)) {R : Int} {m : Nat} (a : cp g R m T) (Q : m ≤ 900000000000) :
 Calls prog 125 [ptr g].toArray w (nb g par X R m T (some (iw T.abs)) w) := by
 obtain ⟨am, bk, use, b8, cm, bM, buf, aF⟩ := T
 have G := a.bf
 dsimp only at G
 refine bI func125 ntmps125 F ?_
 cases use with
 | false =>
  refine ay ?_
  refine ds (q := 0) underlying115 pL rfl rfl rfl (by rfl) (by omega) ?_
  refine ar ?_
  refine ao rfl kw rfl (fun n b => kI n am (b.ed (l := aO am) bJ Has.head)) ?_
  refine kM (l0 := aO am) (l' := fun _ : Unit => aO (kW am) ++ [am.ap.bf.au]) (cs1 := fun _ => [eN g par ⟨am, bk, false, b8, cm, bM, buf, aF⟩, aR (aO (kW am) ++ [am.ap.bf.au]), aR (aO bk), buf.au, aF.au, X]) (fun _ => bn.tail bn.head) rfl EW rfl (fun n b => JR (b.kL (Has.tail Has.head))) (fun _ _ => ?_)
  refine ay ?_
  refine b2 (ι := Nat × n1) (fun t => [(0, ptr g), (10, am.ap.bf.val), (11, .int .i64 (am.ap.bf.l.length : Int)), (12, .int .i64 (t.1 : Int))]) (fun t => af w (aB (bz g par X ⟨am, bk, false, b8, cm, bM, buf, aF⟩)) (am.ap.bf.au :: bz g par X ⟨kW am, bk, false, b8, cm, bM, buf, t.2⟩)) (fun t => t.1 ≤ am.ap.bf.l.length ∧ t.2.l = aF.l ++ (am.ap.bf.l.take t.1).map oa) (fun t => am.ap.bf.l.length - t.1) ?_ ?_
  ·exact fun w' p => ⟨(0, aF), ⟨Nat.zero_le _, by simp⟩, (cj rfl rfl rfl rfl), by
    have f := (p.open (l := aO (kW am) ++ [am.ap.bf.au]) cw)
    exact (f.close (l := aO (kW am)) ae).ax ae⟩
  ·rintro ⟨i, d⟩ ⟨hi, e⟩
   dsimp only at hi e ⊢
   have H : d.l.length = aF.l.length + i := by rw [e, List.length_append, List.length_map, List.length_take]; omega
   refine al ?_
   refine aj (fun v => ?_) (fun v => ?_)
   ·obtain ⟨s, y⟩ : ∃ s, am.ap.bf.l[i]? = some s := ⟨am.ap.bf.l[i]'(by omega), List.getElem?_eq_getElem _⟩
    obtain ⟨hd, kf, sn⟩ := s
    refine al ?_
    refine jr (E := j3) aT zE rfl rfl rfl (by rfl) (by omega) (fun I z => ?_)
    refine cx zG rfl rfl rfl (fun J f j u A => f.gJ (E := j3) aT z (by assumption) j u A) ?_
    refine ar ?_
    intro B K L
    refine ah ?_
    refine eF [0, 1, 2, 3, 4, 5, 6] 3 [[(7, false, []), (8, false, [9, 10]), (11, true, [])]] (_) mixed (by kernel_rfl) (fun _ k => k.drew) (fun _ h => (show af _ _ [aD B _ 180, eN g par _] _ from h.ax ae)) ?_
    refine aJ ?_
    refine dy (E := lw) ⟨_, _, _, _, [], _, _, _, _, _⟩ q3 rfl rfl rfl rfl rfl (fun M N O => ?_)
    refine b3 (fun _ => True) (fun _ h => .inr (h.ax ae)) (fun _ h => trivial) ?_
    refine aq ?_
    refine eC (E := lw) q3 rfl rfl rfl bj (fun _ _ => uU) b4 b4 (fun S U => ?_)
    refine b3 (fun _ => True) (fun _ h => .inr ⟨.inr (h.ax ae), (by trivial)⟩) (fun _ h => trivial) ?_
    refine b7 ?_
    exact bi (i + 1, ⟨_, _, d.l ++ [⟨false, 0, 0, false, [], 0, 0, hd, kf, sn⟩]⟩) ⟨by omega, by dsimp only; rw [e, List.take_add_one, y, List.append_assoc]; simp [oa]⟩ bm (cj rfl rfl rfl rfl) (fun _ h => h.ax ae)
   ·refine ay ?_
    intro P k
    have C : i = am.ap.bf.l.length := by omega
    have o : d.l = aF.l ++ am.ap.bf.l.map oa := by rw [e, C, List.take_length]
    refine aN ⟨kW am, bk, false, b8, cm, bM, buf, d⟩ ⟨⟨JS _ a.am, a.bk, a.room, a.bM, a.cm, ?_, a.buf, ?_, a.md⟩, fun r D => ?_⟩ k
    ·dsimp only [List.length_nil]; omega
    ·intro c b; dsimp only at b; rw [o] at b; exact (List.mem_append.1 b).elim (a.aF c) (fun h => by obtain ⟨x, _, rfl⟩ := List.mem_map.1 h; simp [oa])
    ·cases D; simp only [bL.abs, iw, o]; rfl
 | true =>
  refine ay ?_
  refine ds (q := 0) underlying115 pL rfl rfl rfl (by rfl) (by omega) ?_
  refine ar ?_
  refine ao rfl kw rfl (fun n b => kI n bk (b.ed (l := aO bk) cr Has.head)) ?_
  refine kM (l0 := aO bk) (l' := fun _ : Unit => aO (kW bk) ++ [bk.ap.bf.au]) (cs1 := fun _ => [eN g par ⟨am, bk, true, b8, cm, bM, buf, aF⟩, aR (aO am), aR (aO (kW bk) ++ [bk.ap.bf.au]), buf.au, aF.au, X]) (fun _ => bn.tail (bn.tail bn.head)) rfl EW rfl (fun n b => JR (b.kL (Has.tail (Has.tail Has.head)))) (fun _ _ => ?_)
  refine ay ?_
  refine b2 (ι := Nat × n1) (fun t => [(0, ptr g), (10, bk.ap.bf.val), (11, .int .i64 (bk.ap.bf.l.length : Int)), (12, .int .i64 (t.1 : Int))]) (fun t => af w (aB (bz g par X ⟨am, bk, true, b8, cm, bM, buf, aF⟩)) (bk.ap.bf.au :: bz g par X ⟨am, kW bk, true, b8, cm, bM, buf, t.2⟩)) (fun t => t.1 ≤ bk.ap.bf.l.length ∧ t.2.l = aF.l ++ (bk.ap.bf.l.take t.1).map oa) (fun t => bk.ap.bf.l.length - t.1) ?_ ?_
  ·exact fun w' p => ⟨(0, aF), ⟨Nat.zero_le _, by simp⟩, (cj rfl rfl rfl rfl), by
    have f := (p.open (l := aO (kW bk) ++ [bk.ap.bf.au]) p0)
    exact (f.close (l := aO (kW bk)) ae).ax ae⟩
  ·rintro ⟨i, d⟩ ⟨hi, e⟩
   dsimp only at hi e ⊢
   have H : d.l.length = aF.l.length + i := by rw [e, List.length_append, List.length_map, List.length_take]; omega
   refine al ?_
   refine aj (fun v => ?_) (fun v => ?_)
   ·obtain ⟨s, y⟩ : ∃ s, bk.ap.bf.l[i]? = some s := ⟨bk.ap.bf.l[i]'(by omega), List.getElem?_eq_getElem _⟩
    obtain ⟨hd, kf, sn⟩ := s
    refine al ?_
    refine jr (E := j3) aT zE rfl rfl rfl (by rfl) (by omega) (fun I z => ?_)
    refine cx zG rfl rfl rfl (fun J f j u A => f.gJ (E := j3) aT z (by assumption) j u A) ?_
    refine ar ?_
    intro B K L
    refine ah ?_
    refine eF [0, 1, 2, 3, 4, 5, 6] 3 [[(7, false, []), (8, false, [9, 10]), (11, true, [])]] (_) mixed (by kernel_rfl) (fun _ k => k.drew) (fun _ h => (show af _ _ [aD B _ 180, eN g par _] _ from h.ax ae)) ?_
    refine aJ ?_
    refine dy (E := lw) ⟨_, _, _, _, [], _, _, _, _, _⟩ q3 rfl rfl rfl rfl rfl (fun M N O => ?_)
    refine b3 (fun _ => True) (fun _ h => .inr (h.ax ae)) (fun _ h => trivial) ?_
    refine aq ?_
    refine eC (E := lw) q3 rfl rfl rfl bj (fun _ _ => uU) b4 b4 (fun V W => ?_)
    refine b3 (fun _ => True) (fun _ h => .inr ⟨.inr (h.ax ae), (by trivial)⟩) (fun _ h => trivial) ?_
    refine b7 ?_
    exact bi (i + 1, ⟨_, _, d.l ++ [⟨false, 0, 0, false, [], 0, 0, hd, kf, sn⟩]⟩) ⟨by omega, by dsimp only; rw [e, List.take_add_one, y, List.append_assoc]; simp [oa]⟩ bm (cj rfl rfl rfl rfl) (fun _ h => h.ax ae)
   ·refine ay ?_
    intro P k
    have C : i = bk.ap.bf.l.length := by omega
    have o : d.l = aF.l ++ bk.ap.bf.l.map oa := by rw [e, C, List.take_length]
    refine aN ⟨am, kW bk, true, b8, cm, bM, buf, d⟩ ⟨⟨a.am, JS _ a.bk, a.room, a.bM, a.cm, ?_, a.buf, ?_, a.md⟩, fun r D => ?_⟩ k
    ·dsimp only [List.length_nil]; omega
    ·intro c b; dsimp only at b; rw [o] at b; exact (List.mem_append.1 b).elim (a.aF c) (fun h => by obtain ⟨x, _, rfl⟩ := List.mem_map.1 h; simp [oa])
    ·cases D; simp only [bL.abs, iw, o]; rfl
section
def CJ (x:Os.ly) (y c:Int):me:=⟨true,x.kind,x.code,x.has,x.text,y,c,0,0,0⟩
def ob (t:fc) (text:List UInt8) (cut:Bool):fc:=
 if cut=true then t else
 if (Os.lz text).kind=8 then { t with cm:=(Os.lz text).text } else
 if (Os.lz text).kind≠0∧t.use=false then { iw t with aF:=(iw t).aF++[CJ (Os.lz text) ((iw t).am.y+fU (iw t).am.bD) (iw t).am.x] } else t
theorem JU (t:fc) (s:List UInt8):ob t s true=t:=aw rfl
section
variable {t:fc} {s:List UInt8} {rd:Os.ly}
theorem JV (a:rd=Os.lz s) (b:rd.kind=8):ob t s false= { t with cm:=rd.text }:=by
 subst a;rw[ob,ag aZ,aw b]
theorem CK (b:rd=Os.lz s) (c:rd.kind≠8) (h:rd.kind=0∨t.use=true):ob t s false=t:=by
 subst b;rw[ob,ag aZ,ag c,ag (λa=>by rcases h with h | h;exact a.1 h;rw[h] at a;exact Bool.noConfusion a.2)]
theorem We (a:rd=Os.lz s) (b:rd.kind≠8) (c:rd.kind≠0) (e:t.use=false) {d:fc} (ak:d=iw t):ob t s false= { d with aF:=d.aF++[CJ rd (d.am.y+fU d.am.bD) d.am.x] }:=by
 subst a;subst ak
 rw[ob,ag aZ,ag b,aw ⟨c,e⟩]
end
section
variable {P:Program} {n:Nat} {ops:Array Oper} {Q:cq} {rest:List Oper} {l:Fr} {d:Nat} {ty:TypeId} {pos:String} {a7:Array Edge}
variable {b:World} {S:List Nat} {args:List Operand} {db:Array TypeId} {f:FuncId} {vs:List Value} {g par m:Nat} {R:Int} {T:bL} {X e7 rK:Chunk} {q:Option fc}
theorem Wg (ak:Nat.blt d n=true) (c:ad P f) (j:cI l args=some vs)
 (k: ∀w,a8 w (bz g par X T)→Calls P f vs.toArray w (nb g par X R m T q w))
 (h: ∀bu:bL,cp g R m bu→(∀r,q=some r→bu.abs=r)→az P n ops Q rest ((d,.tuple #[])::l) (af b S (e7::rK::bz g par X bu))):
 az P n ops Q (⟨some d,.call ⟨.value (.func f),args.toArray,db⟩,ty,pos,a7,none⟩::rest) l (af b S (e7::rK::bz g par X T)):=by
 refine gT rfl ak c j λw a=>?_
 have:=k w (a.bo ae)
 simp only[iA,i8];refine this.mono ?_;rintro e w' ⟨i,hi,rfl,o⟩;exact⟨.tuple #[],rfl,(h i hi.1 hi.2).at ((a.pZ ae o).perm (ou (l₁:=bz g par X i) (l₂:=[e7,rK])))⟩
theorem Wh (ak:Nat.blt d n=true) (c:ad P f) (j:cI l args=some vs)
 (k: ∀w,a8 w (bz g par X T)→Calls P f vs.toArray w (nb g par X R m T q w))
 (h: ∀bu:bL,cp g R m bu→(∀r,q=some r→bu.abs=r)→az P n ops Q rest ((d,.tuple #[])::l) (af b S (bz g par X bu))):
 az P n ops Q (⟨some d,.call ⟨.value (.func f),args.toArray,db⟩,ty,pos,a7,none⟩::rest) l (af b S (bz g par X T)):=by
 refine gT rfl ak c j λw a=>?_
 have:=k w (a.bo ae)
 simp only[iA,i8];refine this.mono ?_;rintro e w' ⟨i,hi,rfl,o⟩;exact⟨.tuple #[],rfl,(h i hi.1 hi.2).at (a.pZ ae o)⟩
end
theorem Wi [Inhabited bO] {g:Nat} {R:Int} {m:Nat} {am bk:bl} {b8:Nat} {cm:List UInt8} {bM:Option Addr} {buf:is} {aF e:n1} {t:fc} {rd:Os.ly} {s:List UInt8} {cut:Bool} (a:cp g R m ⟨am,bk,false,b8,cm,bM,buf,aF⟩)
 (ak: ∀r,some (iw t)=some r→bL.abs ⟨am,bk,false,b8,cm,bM,buf,aF⟩=r) (j:rd=Os.lz s) (b:cut=false) (k: ¬rd.kind=8) (o: ¬rd.kind=0) (p:rd.text.length≤256) (f:e.l=aF.l++[CJ rd (am.y+am.ap.r.n) am.x]:=by rfl):
 cp g R (m+1) ⟨am,bk,false,b8,cm,bM,buf,e⟩∧ ∀r,some (ob t s cut)=some r→bL.abs ⟨am,bk,false,b8,cm,bM,buf,e⟩=r:=by
 subst b;have h:=ak _ rfl
 have d:t.use=false:=by
  have i:=aU fc.use h
  cases d:t.use
  rfl
  rw[iw,aw d,d] at i
  exact absurd i (by simp[bL.abs])
 have q: (fU am.ap.abs:Int)=am.ap.r.n:=by
  have u:=a.am.g.r.n
  show (am.ap.r.rows.length:Int)=_
  rw[ll];dsimp only at u
  omega
 refine⟨⟨a.am,a.bk,a.room,a.bM,a.cm,?_,by have:=a.buf;dsimp only at this ⊢;omega,?_,a.md⟩,λr v=>?_⟩;have:=a.bf
 dsimp only at this ⊢
 rw[f,b6,jY];omega
 intro c b;dsimp only at b
 rw[f] at b
 rcases cZ.1 b with b | b
 exact a.aF c b;rw[eb.1 b];exact p
 cases v
 rw[We j k o d h];simp only[bL.abs,f];rw[←q];rfl
set_option maxHeartbeats 1000000 in
theorem Wj [Inhabited bO] (w:World) (g par:Nat) (X:Chunk) (T:bL) (H:a8 w (bz g par X T)) {e:dT} (A:mn X e) {R:Int} {m:Nat} (a:cp g R m T) (Y:m≤900000000000):
 Calls prog 123 [ptr g,.agg e.enc.toArray].toArray w (nb g par X R (m+1) T (some (ob T.abs e.text e.cut)) w):=by
 have B:=A.ps
 have p:=Os.Vv e.text
 have C:e.text.length≤1000000:=by have:=A.ok.text;omega
 obtain⟨rd,i⟩ : ∃rd,rd=Os.lz e.text:=⟨_,rfl⟩;rw[←i] at p
 obtain⟨cut,j⟩ : ∃cut,e.cut=cut:=⟨_,rfl⟩;rw[j];refine bI func123 ntmps123 H ?_;obtain⟨am,bk,use,b8,cm,bM,buf,aF⟩:=T;cases use with
 | true=>
  refine ah ?_;intro I J K;refine aJ ?_;refine b1 rfl (λL=>?_) (λL=>?_);refine ah ?_;intro k b;exact aP.bQ ⟨am,bk,_,b8,cm,bM,buf,aF⟩ ⟨a.mono aa,λr d=>by cases d;rw[show cut=true from j.symm.trans bv,JU]⟩ rfl (b.ax ae);refine al ?_;refine ao (v:= .agg rd.cells.toArray) rfl EV rfl (λc f=>by rw[i];exact Os.JD c (B c (f.has e4)).os e.text C) ?_;refine ar ?_;intro D M N;refine bx ?_;refine aj (λaH=>?_) (λaH=>?_);have O:=aH
  refine aQ ?_;intro k b;exact aP.bQ ⟨am,bk,_,b8,rd.text,bM,buf,aF⟩ ⟨⟨a.am,a.bk,a.room,a.bM,p,by have:=a.bf;dsimp only at this ⊢;omega,by have:=a.buf;dsimp only at this ⊢;omega,a.aF,a.md⟩,λr d=>by cases d;rw[show cut=false from j.symm.trans bv,JV i bv];rfl⟩ rfl (b.ax ae);have O:=aH
  refine al ?_;refine aW 25 rfl (λs=>?_) (λs=>?_);have P:=aX s
  refine eR ?_;intro k b;exact aP.bQ ⟨am,bk,_,b8,cm,bM,buf,aF⟩ ⟨a.mono aa,λr d=>by cases d;rw[show cut=false from j.symm.trans bv,CK i bv (.inr rfl)]⟩ rfl (b.ax ae);have P:=bd s
  refine bH ?_;intro k b;exact aP.bQ ⟨am,bk,_,b8,cm,bM,buf,aF⟩ ⟨a.mono aa,λr d=>by cases d;rw[show cut=false from j.symm.trans bv,CK i bv (.inr rfl)]⟩ rfl (b.ax ae)
 | false=>
  refine ah ?_;intro I J K;refine aJ ?_;refine b1 rfl (λQ=>?_) (λQ=>?_);refine ah ?_;intro k b;exact aP.bQ ⟨am,bk,_,b8,cm,bM,buf,aF⟩ ⟨a.mono aa,λr d=>by cases d;rw[show cut=true from j.symm.trans bv,JU]⟩ rfl (b.ax ae);refine al ?_;refine ao (v:= .agg rd.cells.toArray) rfl EV rfl (λc f=>by rw[i];exact Os.JD c (B c (f.has e4)).os e.text C) ?_;refine ar ?_;intro D M N;refine bx ?_;refine aj (λu=>?_) (λu=>?_);have S:=u
  refine aQ ?_;intro k b;exact aP.bQ ⟨am,bk,_,b8,rd.text,bM,buf,aF⟩ ⟨⟨a.am,a.bk,a.room,a.bM,p,by have:=a.bf;dsimp only at this ⊢;omega,by have:=a.buf;dsimp only at this ⊢;omega,a.aF,a.md⟩,λr d=>by cases d;rw[show cut=false from j.symm.trans bv,JV i bv];rfl⟩ rfl (b.ax ae);have S:=u
  refine al ?_;refine aW 25 rfl (λz=>?_) (λz=>?_);have U:=aX z
  refine eR ?_;refine Wg rfl EM rfl (λc o=>JT c g par X _ o a aa) (λ⟨am,bk,use,b8,cm,bM,buf,aF⟩ a ak=>?_);obtain rfl:use=false:=aU fc.use (ak _ rfl)
  refine aC ?_;refine ds (q:=0) underlying115 pL rfl rfl rfl bc aa ?_;refine aq ?_;have Z:0≤am.y∧am.y≤1000:=by have F:=a.am.ok.y;have G:=tl a.am.ok;simp only[bl.abs,be.rows] at *;omega
  have Za:0≤am.ap.r.n∧am.ap.r.n≤100000:=by have F:=a.am.g.r.n;have G:=a.am.g.r.len;have V:=a.am.g.r.room;dsimp only at F G V;omega
  have Zb:aF.l.length≤m:=by have:=a.bf;dsimp only at this;omega
  refine ay ?_;refine ao rfl jf rfl (λc f=>ju c am (f.ed (l:=aO am) gD Has.head)) ?_;refine kd (t:=35) (off:=0) ab eg rfl rfl rfl ?_;refine ar ?_;intro W Zc Zd;refine aS ?_;refine bF [0,1,2] 3 [[(3,false,[]),(4,false,[5,6]),(7,true,[])]] ?_;refine ay ?_;refine ao rfl kw rfl (λc f=>kI c am (f.ed (l:=aO am) hM Has.head)) ?_;refine ah ?_;refine ao rfl oL rfl (λc f=>oX c am.ap (f.ed (l:=aO am) hM (Has.tail Has.head)) ((f.ed (l:=aO am) hM (Has.tail (Has.tail Has.head)): (aR (cc am.ap.r)).pred c) am.ap.r.an av)) ?_;refine aQ ?_;refine eF [0,1,2,3,4,5,6,7,8] 3 [[(9,false,[]),(10,false,[11,12]),(13,true,[])]] (_) mixed ab (λ_ b=>b.drew) (λ_ h=>(show af _ _ [aD W _ 35,aD D _ 176,eN g par _] _ from h.ax ae)) ?_;refine bp ?_;refine dy (E:=lw) ⟨_,_,_,_,_,_,_,_,_,_⟩ q3 rfl rfl rfl rfl rfl (λZe Zf Zg=>?_);refine b3 (λ_=>True) (λ_ h=> .inr (h.ax ae)) (λ_ h=>a1) ?_;refine aq ?_;refine eC (E:=lw) q3 rfl rfl rfl bj (λ_ _=>FY) b4 b4 (λZh Zi=>?_);refine b3 (λ_=>True) (λ_ h=> .inr ⟨.inr (h.ax ae),dp⟩) (λ_ h=>a1) ?_;refine aQ ?_;intro k b
  (refine aP.bQ ⟨am,bk,false,b8,cm,bM,buf,⟨_,_,aF.l++[⟨true,rd.kind,rd.code,rd.has,rd.text,am.y+am.ap.r.n,am.x,0,0,0⟩]⟩⟩ ?_ rfl (b.ax ae);exact Wi a ak i (j.symm.trans bv) bv bv p)
  have U:=bd z
  refine bH ?_;intro k b;exact aP.bQ ⟨am,bk,_,b8,cm,bM,buf,aF⟩ ⟨a.mono aa,λr d=>by cases d;rw[show cut=false from j.symm.trans bv,CK i bv (.inl aa)]⟩ rfl (b.ax ae)
end
theorem Wk [Inhabited bO] (s:List UInt8) (a:cU.iV) (t b:Int): (cU.rH s a (cU.e0 t) (cU.e0 b)).length≤1000:=by
 have c:=tV (cU.e0 t+1) (by have:=cU.mf t;omega)
 have d:=tV (cU.e0 b+1) (by have:=cU.mf b;omega)
 have e:=cU.I6 a
 unfold cU.rH;split
 split <;> simp <;> omega
 split <;> simp <;> omega
theorem Wl [Inhabited bO] (w:World) (g par:Nat) (X:Chunk) (T:bL) (i:a8 w (bz g par X T)) {e:dT} (k:mn X e) {R:Int} {m:Nat} (c:cp g R m T) (x:m≤900000000000):
 Calls prog 124 [ptr g,.agg e.enc.toArray].toArray w (hy g par X R (m+1000) (.tuple #[]) T w):=by
 have n:=k.ps
 have p:=Wk e.text (cU.W ⟨T.am.bg.at_.di,T.am.bg.at_.fn,T.am.bg.at_.an,T.am.bg.at_.aM,T.am.bg.at_.fl⟩)
 refine bI func124 ntmps124 i ?_;refine ah ?_;intro y z A;refine aK ?_;refine aW 8 rfl (λf=>?_) (λf=>?_);have q:=aX f
 refine aK ?_;refine aW 13 rfl (λaH=>?_) (λaH=>?_);have r:=aX aH
 refine aJ ?_;refine aj (λs=>?_) (λs=>?_);refine ah ?_;refine ao rfl fh rfl (λa d=>fk a g par T (d.has bJ)) ?_;refine ao rfl jf rfl (λa d=>ju a T.am (d.ed (l:=aO T.am) cr Has.head)) ?_;refine ar ?_;intro B C D;refine e3 zH rfl rfl (by rw[B2];exact bn.head) rfl (aI.cons rfl (aI.cons rfl (aI.cons rfl (aI.cons rfl (aI.cons rfl (aI.cons rfl (aI.cons rfl (aI.cons rfl (aI.cons rfl (gg rfl rfl rfl rfl rfl rfl rfl rfl rfl rfl)))))))))) (by exact dV rfl) ?_;refine aC ?_;refine cx (vs:=[.int .i64 T.am.bg.at_.di,.int .i64 T.am.bg.at_.fn,.int .i64 T.am.bg.at_.an,.int .i64 T.am.bg.at_.aM,.int .i64 T.am.bg.at_.fl]) sw rfl rfl rfl (λE t j u v=>t.k6 (sz:=5) (o:=2) (xs:=tD T.am) aT rfl j u v) ?_;refine aS ?_;refine ao rfl NX rfl (λa d=>cU.UO a (n a (d.has xl)).it e.text ⟨T.am.bg.at_.di,T.am.bg.at_.fn,T.am.bg.at_.an,T.am.bg.at_.aM,T.am.bg.at_.fl⟩ _ _) ?_;refine JG rfl nt rfl (λa o=>n_ a g par X T o c _ aa (p _ _)) (λT c=>?_);refine aq ?_;intro h b;exact aN T (c.mono aa) b;refine aq ?_;intro h b;exact aN T (c.mono aa) b;have r:=bd aH
 refine aJ ?_;intro h b;exact aN T (c.mono aa) b;have q:=bd f
 refine b7 ?_;intro h b;exact aN T (c.mono aa) b
theorem Wm [Inhabited bO] (w : World) (g par : Nat) (X : Chunk) (T : bL) (d : a8 w (bz g par X T)) {R : Int} {m : Nat} (a : cp g R m T) (e : m ≤ 900000000000) :
 Calls prog 73 [ptr g].toArray w (aP (fun i : bL × n1 => i.2.val) (bz g par X T) (fun i => i.2.au :: bz g par X i.1) (fun i => cp g R m i.1 ∧ i.2.l = (iw T.abs).aF ∧ i.1.abs = { iw T.abs with aF := [] } ∧ i.2.l.length ≤ m ∧ ∀ c ∈ i.2.l, c.text.length ≤ 256) w) := by
 refine bI func73 ntmps73 d ?_
 refine eR ?_
 refine Wh rfl EM rfl (fun f o => JT f g par X _ o a e) (fun ⟨am, bk, use, b8, cm, bM, buf, aF⟩ a ak => ?_)
 have ak := ak _ rfl
 have b := a.bf
 refine uW ?_
 intro j h
 refine aP.bQ (⟨am, bk, use, b8, cm, bM, buf, ⟨none, 0, []⟩⟩, aF) ⟨⟨a.am, a.bk, a.room, a.bM, a.cm, ?_, a.buf, by simp, a.md⟩, ?_, ?_, ?_, a.aF⟩ rfl ((h.eU 182 lw).ax ae)
 ·dsimp only [List.length_nil] at b ⊢; omega
 ·rw [← ak]; rfl
 ·rw [← ak]; rfl
 ·dsimp only at b ⊢; omega
def kk (k:Int):Option FuncId:=
 if k=0 then some 119 else if k=1 then some 120 else if k=2 then some 121 else if k=3 then some 122 else
 if k=4 then some 123 else if k=5 then some 124 else none
def mq (g:Nat) (k:Int):Value:=match kk k with | some f=> .func (.func f) [ptr g].toArray ([]:List Value).toArray | none=> .nilFunc
theorem JW (w:World) (g:Nat) (k:Int):Calls prog 72 [ptr g,.int .i64 k].toArray w (Pure (mq g k) w):=by
 refine aV func72 ntmps72 ?_;refine eR ?_;refine aj (λc=>?_) (λc=>?_);refine bp ?_;intro b a;refine⟨?_,a.ext⟩;congr 1
 unfold mq kk;simp_all
 refine al ?_;refine aj (λaH=>?_) (λaH=>?_);refine bp ?_;intro b a;refine⟨?_,a.ext⟩;congr 1
 unfold mq kk;simp_all
 refine al ?_;refine aj (λd=>?_) (λd=>?_);refine bp ?_;intro b a;refine⟨?_,a.ext⟩;congr 1
 unfold mq kk;simp_all
 refine al ?_;refine aj (λe=>?_) (λe=>?_);refine bp ?_;intro b a;refine⟨?_,a.ext⟩;congr 1
 unfold mq kk;simp_all
 refine al ?_;refine aj (λf=>?_) (λf=>?_);refine bp ?_;intro b a;refine⟨?_,a.ext⟩;congr 1
 unfold mq kk;simp_all
 refine al ?_;refine aj (λh=>?_) (λh=>?_);refine bp ?_;intro b a;refine⟨?_,a.ext⟩;congr 1
 unfold mq kk;simp_all
 refine aQ ?_;intro b a;refine⟨?_,a.ext⟩;congr 1
 unfold mq kk;simp_all
def jQ (t:fc) (e:hc):Option fc:=
 if e.kind=0 then some { t with am:=vx t.am e.r } else if e.kind=1 then yS t e.byte else if e.kind=4 then some (ob t e.text e.cut) else
 if e.kind=2∨e.kind=3∨e.kind=5 then none else some t
theorem hy.te {g par:Nat} {X:Chunk} {R:Int} {m k:Nat} {T:bL} {w w':World} {e:Ending} {q:Option fc} (h:hy g par X R m (.tuple #[]) T w e w') (b:m≤k) (c:q=none):nb g par X R k T q w e w':=by
 obtain⟨i,hi,d,f⟩:=h;exact⟨i,⟨hi.mono b,λr a=>by rw[c] at a;cases a⟩,d,f⟩
theorem nb.mono {g par:Nat} {X:Chunk} {R:Int} {m k:Nat} {T:bL} {w w':World} {e:Ending} {q a:Option fc} (h:nb g par X R m T q w e w') (b:m≤k) (c:a=q):nb g par X R k T a w e w':=by
 subst c;obtain⟨i,hi,d,f⟩:=h;exact⟨i,⟨hi.1.mono b,hi.2⟩,d,f⟩
theorem Wn [Inhabited bO] (w:World) (g par:Nat) (X:Chunk) (T:bL) (i:a8 w (bz g par X T)) {e:dT} (l:mn X e) {R:Int} {m:Nat} (j:cp g R m T) (p:m≤700000000000) {f:FuncId} (a:kk e.kind=some f):
 Calls prog f [ptr g,.agg e.enc.toArray].toArray w (nb g par X R (m+4000000) T (jQ T.abs e.abs) w):=by
 unfold kk at a
 have k:e.abs.kind=e.kind:=rfl
 split at a
 rename_i h;cases a
 exact (Wc w g par X T i j aa e).mono (λ_ _ b=>b.mono aa (by rw[jQ,k,aw h];rfl));split at a
 rename_i c h;cases a
 exact (Wd w g par X T i l.ps j aa e).mono (λ_ _ b=>b.mono aa (by rw[jQ,k,ag c,aw h];rfl));split at a
 rename_i c d h;cases a
 exact (V3 w g par X T i l j aa).mono (λ_ _ b=>b.te aa (by rw[jQ,k,ag c,ag d,ag aa,aw aa]));split at a
 rename_i c d b h;cases a
 exact (Wb w g par X T i l j aa).mono (λ_ _ b=>b.te aa (by rw[jQ,k,ag c,ag d,ag aa,aw aa]));split at a
 rename_i c d b n h;cases a
 exact (Wj w g par X T i l j aa).mono (λ_ _ b=>b.mono aa (by rw[jQ,k,ag c,ag d,aw h];rfl));split at a
 rename_i c d b n o h;cases a
 exact (Wl w g par X T i l j aa).mono (λ_ _ b=>b.te aa (by rw[jQ,k,ag c,ag d,ag o,aw aa]));cases a
theorem Wo {k:Int} {f:FuncId} (a:kk k=some f):ad prog f:=by
 unfold kk at a
 repeat' split at a
 all_goals cases a
 ·exact Nt
 ·exact Nu
 ·exact Nv
 ·exact Nw
 ·exact Nx
 ·exact Ny
section
def CL (most:Int) (s:ga × Int × fc) (c:UInt8):Option (ga × Int × fc):=
 (jt s.1 s.2.1 most c).bind λr=>(r.2.foldlM jQ s.2.2).bind λt=>some (r.1.1,r.1.2,t)
def vX (p:ce) (t:fc) (L:List UInt8) (q:ce) (u:fc):Prop:=
 p.dec.js=0→p.dec.ma=0→ ∀r,L.foldlM (CL p.most) (p.h,p.state,t)=some r→q.dec=p.dec∧q.h=r.1∧q.state=r.2.1∧u=r.2.2
theorem vX.step {p q z:ce} {t u v:fc} {L:List UInt8} {c:UInt8} {cI:List hc} (h:vX p t L q u) (k:q.most=p.most) (l:iu q c z cI) (m: ∀r,cI.foldlM jQ u=some r→v=r):vX p t (L++[c]) z v:=by
 intro f g r i;rw[List.foldlM_append] at i
 obtain⟨a,n,j⟩:=lP.1 i;obtain⟨e,o,s,w⟩:=h f g a n;simp only[List.foldlM_cons,List.foldlM_nil] at j
 obtain⟨y,b,A⟩:=lP.1 j;cases A
 unfold CL at b
 obtain⟨x,B,b⟩:=lP.1 b;obtain⟨D,C,b⟩:=lP.1 b;cases b
 have d:=l.2 (by rw[e];exact f) (by rw[e];exact g) x (by rw[o,s,k];exact B)
 refine⟨d.1.trans e,d.2.1,d.2.2.1,m _ ?_⟩;rw[d.2.2.2,w];exact C
section
variable {P:Program} {n:Nat} {ops:Array Oper} {Q:cq} {rest:List Oper} {l:Fr} {d:Nat} {ty:TypeId} {pos:String} {a7:Array Edge}
variable {b:World} {S:List Nat} {cs cs':List Chunk} {ι:Type} {args:List Operand} {db:Array TypeId} {f:FuncId} {vs:List Value} {v:ι→Value} {l0:List Chunk} {ok:ι→Prop}
theorem JX {H:World→Prop} {x y:Operand} {cv dx:TypeId} {a:Value} {r:Bool} (c: ∀w,(binOp .neq cv a .nilFunc).run P w= .ok (.bool r) w) (ak:Nat.blt d n=true) (e:ba l x=some a) (f:ba l y=some .nilFunc)
 (h:az P n ops Q rest ((d,.bool r)::l) H):az P n ops Q (⟨some d,.binOp .neq cv x y dx,ty,pos,a7,none⟩::rest) l H:=
 dd _ ak (λg w b=>by
  have:=c w
  simp[execOp,b x _ e,b y _ f,eqGuard,this]) h
end
theorem Wp [Inhabited bO] {X:Chunk} {x:gl} {e:dT} (a: ∀w,X.pred w→ei.pred w∧x.b9.pred w) (c: ∀k,k∈x.b9.ch→k∈X.ch) (b:e∈x.l) (d:mb e):mn X e:=by
 refine⟨λw h=>(a w h).1.2,λw h=>?_,d⟩;have f:e.nums.aF.pred w:=(a w h).2 _ (dH.2 ⟨e,b,rfl⟩)
 exact f.2.dC (λk g=>c k (e_.2 ⟨e.nums.aF,dH.2 ⟨e,b,rfl⟩,ot.2 ⟨g.1,aa⟩⟩))
abbrev rM [Inhabited bO] (x:gl):Chunk:=aR [ei,x.b9]
abbrev fo [Inhabited bO] (p:ce) (g par:Nat) (T:bL):List Chunk:=aR (c_ p)::bz g par ei T
structure Fd (p:ce) (g par:Nat) (R:Int) (m:Nat) (T:bL) (L:List UInt8) (i:ce × bL):Prop where
 ap:i.1.g=p.g
 wf:fN i.1
 most:i.1.most=p.most
 ok:cp g R m i.2
 R:vX p T.abs L i.1 i.2.abs
theorem Fd.full {p:ce} {g par:Nat} {R:Int} {m n k:Nat} {T:bL} {L:List UInt8} {i:ce × bL} (h:Fd p g par R (m+8000000*k) T (L.take k) i) (a:k=n) (b:L.length=n):Fd p g par R (m+8000000*n) T L i:=by
 subst a;rw[ev aa] at h
 exact h
theorem Wq (w:World) (q:ce) {P:Nat} (a:P=q.g) (b:a8 w (c_ q)) (d:fN q) (c:UInt8):Calls prog 71 [ptr P,.int .u8 (c.toNat:Int)].toArray w (dz q 2 (iu q c) w):=by
 subst a;exact TN w q b d c
theorem Wr [Inhabited bO] {b w:World} {S:List Nat} {z:ce} {x:gl} {g par:Nat} {bu:bL} (h:af b S (aR (tz z x)::bz g par ei bu) w):af b S (aR (c_ z)::x.au::bz g par (rM x) bu) w:=
 (((h.open (l:=tz z x) bj).close (l:=c_ z) ae).close (l:=[ei,x.b9]) ae).ax ae
theorem Ws [Inhabited bO] {b w:World} {S:List Nat} {z:ce} {x:gl} {g par:Nat} {bu:bL} (h:af b S (aR (c_ z)::x.au::bz g par (rM x) bu) w):af b S (fo z g par bu) w:=
 (h.open (l:=[ei,x.b9]) Az).ax ae
theorem Wt [Inhabited bO] {x:gl} {e:dT} (a:e∈x.l) (b:mb e):mn (rM x) e:=
 Wp (λw h=>⟨h ei av,h x.b9 av⟩) (λk c=>e_.2 ⟨x.b9,by simp,c⟩) a b
theorem JY {L:List hc} {j:Nat} {a:hc} (e:L[j]? = some a) {b v v2:fc} (f: ∀r,(L.take j).foldlM jQ b=some r→v=r) (g: ∀r,jQ v a=some r→v2=r): ∀r,(L.take (j+1)).foldlM jQ b=some r→v2=r:=by
 intro r c;rw[fR,e,List.foldlM_append] at c
 obtain⟨u,h,d⟩:=lP.1 c;cases f u h
 simp only[pB,List.foldlM_cons,List.foldlM_nil] at d
 obtain⟨y,i,k⟩:=lP.1 d;cases k
 exact g _ i
theorem Wu {t:fc} {e:dT} (h:kk e.kind=none):jQ t e.abs=some t:=by
 have b:e.abs.kind=e.kind:=rfl
 unfold kk at h
 have a: ¬e.kind=0∧ ¬e.kind=1∧ ¬e.kind=2∧ ¬e.kind=3∧ ¬e.kind=4∧ ¬e.kind=5:=by
  refine⟨?_,?_,?_,?_,?_,?_⟩ <;> (intro c;simp[c] at h)
 rw[jQ,b,ag a.1,ag a.2.1,ag a.2.2.2.2.1,ag aa]
set_option maxHeartbeats 1000000 in
theorem Wv [Inhabited bO] (w:World) (g:Nat) (p:ce) (T:bL) (S:a8 w (fo p g p.g T)) (U:fN p) {R:Int} {m:Nat} (W:cp g R m T) (A:Option Addr) (n c:Nat) (L:List UInt8) (J:Rd cz w (λk=>k∉aB (fo p g p.g T)) A n c L) (Zm:n≤1000) (Zn:m≤100000000000):
 Calls prog 42 [ptr g,.slice A n c].toArray w (aP (λ_:ce × bL=> .tuple #[]) (fo p g p.g T) (λi=>fo i.1 g p.g i.2) (Fd p g p.g R (m+8000000*n) T L) w):=by
 have Zo:=J.len
 refine bI func42 ntmps42 S ?_;refine eR ?_;refine b2 (ι:=Nat × ce × bL) (λt=>[(0,ptr g),(11,.slice A n c),(12,.int .i64 (n:Int)),(13,.int .i64 (t.1 :Int))]) (λt=>af w (aB (fo p g p.g T)) (fo t.2.1 g p.g t.2.2)) (λt=>t.1≤n∧Fd p g p.g R (m+8000000*t.1) T (L.take t.1) t.2) (λt=>n - t.1) ?_ ?_;exact λw' F=>⟨(0,p,T),⟨bP _,rfl,U,rfl,W,λ_ _ r b=>by simp at b;subst b;exact⟨rfl,rfl,rfl,rfl⟩⟩,(cj rfl rfl rfl rfl),F⟩
 rintro⟨i,q,bu⟩ ⟨hi,a⟩;dsimp only at hi a ⊢
 refine al ?_;refine aj (λX=>?_) (λX=>?_);obtain⟨Y,K⟩ : ∃v,L[i]? = some v:=⟨L[i]'aa,bE _⟩;obtain⟨bY,Z,Za,Zb⟩:=J.at_ K;refine al ?_;refine bC (q:=i) ft rfl rfl rfl Z rfl aa ?_;refine a_ zA rfl rfl (λZp Zc=>Zc.cu (Zb 0 _ rfl) (by simp only[block_add];exact Za)) ?_;refine aQ ?_;refine kM (ι:=ce × gl) (l0:=c_ q) (l':=λi=>tz i.1 i.2) (cs1:=λi=>aR (tz i.1 i.2)::bz g p.g ei bu) (λi=>bn.head) rfl Nb rfl (λd s=>Wq d q a.ap.symm (s.kL Has.head) a.wf Y) (λ⟨z,x⟩ o=>?_);refine ay ?_;refine b2 (ι:=Nat × bL) (λt=>[(0,ptr g),(11,.slice A n c),(12,.int .i64 (n:Int)),(13,.int .i64 (i:Int)),(22,x.val),(23,.int .i64 (x.l.length:Int)),(24,.int .i64 (t.1 :Int))]) (λt=>af w (aB (fo p g p.g T)) (aR (c_ z)::x.au::bz g p.g (rM x) t.2)) (λt=>t.1≤x.l.length∧cp g R (m+8000000*i+4000000*t.1) t.2∧ ∀r,((x.l.map dT.abs).take t.1).foldlM jQ bu.abs=some r→t.2.abs=r) (λt=>x.l.length - t.1) ?_ ?_;exact λw' F=>⟨(0,bu),⟨bP _,a.ok,λr b=>by simp at b;exact b⟩,(gX rfl rfl rfl rfl rfl rfl rfl),Wr F⟩
 rintro⟨j,V⟩ ⟨y,D,B⟩;have Zq:x.l.length≤2:=o.len
 dsimp only at y D B ⊢
 refine al ?_;refine aj (λZd=>?_) (λZd=>?_);obtain⟨e,M⟩ : ∃e,x.l[j]? = some e:=⟨x.l[j]'aa,bE _⟩;have N:=da M
 have Ze:=Wt N (o.ok e N)
 have O: (x.l.map dT.abs)[j]? = some e.abs:=by rw[eD,M];rfl
 cases C:kk e.kind with
 | none=>
  have G:mq g e.kind= .nilFunc:=by unfold mq;rw[C]
  refine al ?_;refine jr (E:=eV) bJ gW rfl rfl rfl bc aa (λZf H=>?_);refine cx Eg rfl rfl rfl (λZg I j u y=>I.gJ (E:=eV) bJ H bv j u y) ?_;refine ar ?_;intro Zh Zi Zj;refine aK ?_;refine ao rfl EB rfl (λd s=>(by have h:=JW d g e.kind;rw[G] at h;exact h)) ?_;refine al ?_;refine JX (r:=false) (λw=>by kernel_rfl) rfl rfl rfl ?_;refine aQ ?_;exact bi (j+1,V) ⟨aa,D.mono bm,JY O B (λr b=>by rw[Wu C] at b;cases b;rfl)⟩ bm bR (λ_ h=>h.ax ae)
 | some f=>
  have G:mq g e.kind= .func (.func f) [ptr g].toArray ([]:List Value).toArray:=by unfold mq;rw[C]
  refine al ?_;refine jr (E:=eV) bJ gW rfl rfl rfl bc aa (λZf H=>?_);refine cx Eg rfl rfl rfl (λZg I j u y=>I.gJ (E:=eV) bJ H bv j u y) ?_;refine ar ?_;intro Zh Zi Zj;refine aK ?_;refine ao rfl EB rfl (λd s=>(by have h:=JW d g e.kind;rw[G] at h;exact h)) ?_;refine al ?_;refine JX (r:=true) (λw=>by kernel_rfl) rfl rfl rfl ?_;refine al ?_;refine lU (ι:=bL) (v:=λ_=> .tuple #[]) (l0:=bz g p.g (rM x) V) (l':=bz g p.g (rM x)) (ok:=λP=>cp g R (m+8000000*i+4000000*j+4000000) P∧ ∀r,jQ V.abs e.abs=some r→P.abs=r) ae rfl rfl (Wo C) rfl (λd s=>Wn d g p.g (rM x) V (s.bo ae) Ze D aa C) (λZk Q=>?_);refine aC ?_;exact bi (j+1,Zk) ⟨aa,Q.1.mono bm,JY O B Q.2⟩ bm bR (λ_ h=>h.ax ae)
 refine aQ ?_;exact bi (i+1,z,V) ⟨aa,o.g.trans a.ap,o.wf,o.most.trans a.most,D.mono aa,by rw[fR,K];exact a.R.step a.most o.R (by rw[ev (by simp;omega)] at B;exact B)⟩ bm bR (λ_ h=>Ws h);refine ay ?_;intro Zr Zl;exact aN (q,bu) (a.full aa aa) Zl
end
end Go.Proofs.YtlgnfdodnhokjaaGreatDoor.Mq
