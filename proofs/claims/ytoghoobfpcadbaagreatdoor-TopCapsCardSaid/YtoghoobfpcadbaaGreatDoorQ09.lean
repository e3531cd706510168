/- part 9 of the proof -/
import Derived.Test.YtoghoobfpcadbaaGreatDoorQ08
namespace Go.Proofs.YtoghoobfpcadbaaGreatDoor.Mq
open Go Go.RowKit Go.Proofs Tryz
section
class dP (P:Program) (t:TypeId) (d:outParam TypeDesc):Prop where
 u:P.underlying t=some d
instance ad4:dP prog 3 (.int .i64):=⟨underlying3⟩
instance ad5:dP prog 5 (.int .u8):=⟨underlying5⟩
instance ad6:dP prog 9 (.string):=⟨underlying9⟩
instance ad7:dP prog 24 (.slice 35):=⟨underlying24⟩
instance ad8:dP prog 27 (.pointer 73):=⟨underlying27⟩
instance ad9:dP prog 36 (.pointer 106):=⟨underlying36⟩
instance ad_:dP prog 37 (.pointer 100):=⟨underlying37⟩
instance aea:dP prog 38 (.pointer 84):=⟨underlying38⟩
instance aeb:dP prog 42 (.slice 53):=⟨underlying42⟩
instance aec:dP prog 44 (.slice 144):=⟨underlying44⟩
instance aed:dP prog 47 (.slice 51):=⟨underlying47⟩
instance aee:dP prog 59 (.slice 5):=⟨underlying59⟩
instance aef:dP prog 69 (.pointer 140):=⟨underlying69⟩
instance aeg:dP prog 70 (.pointer 153):=⟨underlying70⟩
instance aeh:dP prog 74 (.pointer 211):=⟨underlying74⟩
instance aei:dP prog 79 (.pointer 81):=⟨underlying79⟩
instance aej:dP prog 82 (.slice 169):=⟨underlying82⟩
instance aek:dP prog 96 (.pointer 255):=⟨underlying96⟩
instance ael:dP prog 103 (.pointer 197):=⟨underlying103⟩
instance aem:dP prog 104 (.slice 167):=⟨underlying104⟩
instance aen:dP prog 122 (.slice 3):=⟨underlying122⟩
instance aeo:dP prog 124 (.slice 184):=⟨underlying124⟩
instance aep:dP prog 131 (.pointer 137):=⟨underlying131⟩
instance aeq:dP prog 138 (.slice 131):=⟨underlying138⟩
instance aer:dP prog 142 (.slice 283):=⟨underlying142⟩
instance aes:dP prog 154 (.slice 158):=⟨underlying154⟩
instance aet:dP prog 156 (.slice 122):=⟨underlying156⟩
instance aeu:dP prog 192 (.slice 244):=⟨underlying192⟩
instance aev:dP prog 214 (.slice 21):=⟨underlying214⟩
instance aew:dP prog 225 (.slice 227):=⟨underlying225⟩
instance aex:dP prog 250 (.int .u64):=⟨underlying250⟩
instance aey:dP prog 253 (.slice 32):=⟨underlying253⟩
instance aez:dP prog 258 (.pointer 209):=⟨underlying258⟩
instance aeA:dP prog 331 (.slice 9):=⟨underlying331⟩
instance aeB:dP prog 408 (.slice 434):=⟨underlying408⟩
structure eG (q:Prop):Prop where
 o:q
theorem fM {p:Prop} (h:p:=by repeat (first | exact Has.head | apply Has.tail)):p:=h
theorem xe {p:Prop} (h:p:=by repeat (first | exact bn.head | apply bn.tail)):p:=h
theorem FI {p:Prop} (h:p:=by repeat (first | exact aH.nil | exact bx.hj _ _ | (apply aH.cons;exact rfl))):p:=h
theorem Pj {p:Prop} (h:p:=by repeat (first | exact bv.head | apply bv.tail)):p:=h
theorem ae {p:Prop} (h:p:=by repeat (first | exact aB.nil | (apply aB.cons;exact Pj))):p:=h
theorem bR {p:Prop} (h:p:=by repeat (first | exact Sub.nil | (apply Sub.cons;exact rfl))):p:=h
theorem b7 {p:Prop} (h:p:=by simp only[b8,eK,lH,maxLen];omega):p:=h
theorem bm {p:Prop} (h:p:=by dsimp only;omega):p:=h
theorem b3: (∀b:Bool,((!b)=true)=(b=false))∧(∀b:Bool,((!b)=false)=(b=true))∧(∀(p:Prop) [Decidable p],(decide p=false)= ¬p)∧ ∀(p:Prop) [Decidable p],(decide p=true)=p:=⟨aZ,aZ,λp _=>by simp,λp _=>by simp⟩
theorem aN {ι:Type} {v:ι→Value} {l:List Chunk} {l':ι→List Chunk} {ok:ι→Prop} {w w':World} {x:Value} {cs r:List Chunk} (i:ι) (hi:ok i) (h:af w (aA l) cs w') (a:aB cs (l' i) r:=by exact ae) (b:x=v i:=by exact rfl):aO v l l' ok w (.returned x) w':=aO.bQ i hi b (h.aw a)
theorem aj {P:Program} {n:Nat} {Q:cq} {l:Fr} {H:World→Prop} {a b:Code} {c:Operand} {p:Prop} [Decidable p] (d:p→de P n a Q l H) (e: ¬p→de P n b Q l H) (f:ba l c=some (.bool (decide p)):=by exact rfl):de P n (.cond c a b) Q l H:=pA f d e
theorem pW {p:Prop} (h:p:=by first | with_reducible exact (rfl:true=true) | with_reducible exact (rfl:false=false) | assumption | exact b5 bA | exact bO bA | exact bO (λh=>h rfl) | exact rfl):p:=h
section
variable {P:Program} {n:Nat} {ops:Array Oper} {Q:cq} {rest:List Oper} {l:Fr} {H:World→Prop} {d:Nat} {ty:TypeId} {pos:String} {a6:Array Edge}
theorem FJ {c:Op} {j u:Nat} {a b t:Bool} (ak:Nat.blt d n=true) (e: (ops[j]?).bind (·.dst)=some u) (f:look l u=some (.bool b)) (g:b=t) (i:t= !a) (h:az P n ops Q rest ((d,undef)::l) H):az P n ops Q (⟨some d,c,ty,pos,a6,some (j,a)⟩::rest) l H:=f_ ak e f (g.trans i) h
theorem FK {a:Op} {c:Option Nat} {j u:Nat} {d b t:Bool} (e: (ops[j]?).bind (·.dst)=some u) (f:look l u=some (.bool b)) (g:b=t) (i:t=d) (h:az P n ops Q (⟨c,a,ty,pos,a6,none⟩::rest) l H):az P n ops Q (⟨c,a,ty,pos,a6,some (j,d)⟩::rest) l H:=bY e f (g.trans i) h
theorem FL {c x y:Operand} {v:Value} {b t:Bool} (ak:Nat.blt d n=true) (a:ba l c=some (.bool b)) (e:b=t) (f:t=true) (g:ba l x=some v) (h:az P n ops Q rest ((d,v)::l) H):az P n ops Q (⟨some d,.pick c x y,ty,pos,a6,none⟩::rest) l H:=zj ak a (e.trans f) g h
theorem FM {c x y:Operand} {v:Value} {b t:Bool} (ak:Nat.blt d n=true) (a:ba l c=some (.bool b)) (e:b=t) (f:t=false) (g:ba l y=some v) (h:az P n ops Q rest ((d,v)::l) H):az P n ops Q (⟨some d,.pick c x y,ty,pos,a6,none⟩::rest) l H:=ig ak a (e.trans f) g h
theorem bF {id:Nat} {os:List Oper} {b:World} {S:List Nat} {cs:List Chunk} (cc:List Nat) (a:Nat) (c:List (List (Nat × Bool × List Nat)))
 (h:gB prog n os.toArray (af b S cs) (λe=>jc prog n os Q a c (af b S cs) e (af b S cs)) (cc.map (λq=>os.getD q default)) l) (f:Af n cc a c os=true:=by kernel_rfl):de prog n (.region id os.toArray true) Q l (af b S cs):=eq cc a c (af b S cs) mixed f (λ_ d=>d.drew) (λ_ d=>d) h
theorem cE {b:World} {S:List Nat} {cs cs':List Chunk} {ι:Type} {args:List Operand} {da:Array TypeId} {f:FuncId} {vs:List Value} {v:ι→Value} {l0:List Chunk} {ok:ι→Prop} {l':ι→List Chunk} (c: ∀w,a8 w l0→Calls P f vs.toArray w (aO v l0 l' ok w)) (h: ∀i,ok i→az P n ops Q rest ((d,v i)::l) (af b S (l' i++cs')))
 (e:cM l args=some vs:=by exact rfl) (ak:Nat.blt d n=true:=by exact rfl) (a:aB cs l0 cs':=by exact ae) (g:ad P f:=by exact inferInstance):az P n ops Q (⟨some d,.call ⟨.value (.func f),args.toArray,da⟩,ty,pos,a6,none⟩::rest) l (af b S cs):=aY a ak g e (λw j=>c w (j.bo a)) h
end
theorem Ap {P:Program} {n:Nat} {os:List Oper} {Q:cq} {k:Nat} {a:List (List (Nat × Bool × List Nat))} {HBa:World→Prop} {l:Fr} {H:World→Prop} {s u:Nat × Bool × List Nat} {o c:Oper}
 (h:az P n os.toArray (qR (λl' w'=>(s.2.1=true∨HBa w')∧ ∃HB:World→Prop,HB w'∧gB P n os.toArray HB (λb=>jc P n os Q k (k_ s.1 a) (λx=>(s.2.1=true∨HBa x)∧HB x) b (λx=>x=w')) (s.2.2.map (λq=>os.getD q default)) l')) [o] l H)
 (d:az P n os.toArray (qR (λl' w'=>(u.2.1=true∨HBa w')∧ ∃HB:World→Prop,HB w'∧gB P n os.toArray HB (λb=>jc P n os Q k (k_ u.1 a) (λx=>(u.2.1=true∨HBa x)∧HB x) b (λx=>x=w')) (u.2.2.map (λq=>os.getD q default)) l')) [c] l H)
 (e:k9 a=[s,u]:=by exact rfl) (f:os.getD s.1 default=o:=by conv=>lhs;whnf) (g:os.getD u.1 default=c:=by conv=>lhs;whnf):jc P n os Q (k+1) a HBa l H:=sx [s,u] e (qB.2 ⟨f▸h,qB.2 ⟨g▸d,by simp⟩⟩)
theorem Pk {P:Program} {n:Nat} {ops:Array Oper} {l:Fr} {d:Nat} {ty:TypeId} {pos:String} {a6:Array Edge} {x:Operand} {t sz:Nat} {z vs xs:List Value} {g o:Nat} {te:TypeId} {b a:World} {S:List Nat} {cs:List Chunk} (c:cG P t sz z) (ak:Nat.blt d n=true) (e:ba l x=some (.pointer (some ⟨g,o,none⟩))) (f:af b S cs a) (h:Has cs (aE g xs te)) (i: (xs.drop o).take sz=vs) (k:vs.length=sz):
 az P n ops (ot ((d,.agg vs.toArray)::l) (λx=>x=a)) [⟨some d,.load t x,ty,pos,a6,none⟩] l (λx=>x=a):=cy c ak e k (λq m j u p=>by subst m;exact f.k5 (sz:=sz) h i j u p) aC
theorem FN {p:Prop} (h:p:=by
 first
 | ((with_reducible apply gl);exact rfl;exact rfl;exact aC)
 | ((with_reducible apply za);exact rfl;exact rfl;exact aC)
 | ((with_reducible apply nq);exact rfl;exact rfl;exact aC)
 | ((with_reducible apply k2);exact inferInstance;exact rfl;exact rfl;exact aC)
 | ((with_reducible apply zc);exact inferInstance;exact rfl;exact rfl;exact fM;exact rfl;exact aC)
 | ((with_reducible apply zd);exact inferInstance;exact rfl;exact rfl;exact fM;exact rfl;exact rfl;exact aC)
 | ((with_reducible apply a7);exact inferInstance;exact rfl;exact rfl;intro b a;subst a;(first | apply af.ep bA | apply pQ.ep bA);exact fM;exact rfl;exact aC)
 | ((with_reducible apply Pk);exact inferInstance;exact rfl;exact rfl;assumption;exact fM;exact rfl;exact rfl)
 | ((with_reducible apply Dx);exact rfl;exact rfl;exact rfl;exact aC)
 | ((with_reducible apply wr);exact rfl;exact rfl;exact rfl;exact aC)
 | ((with_reducible apply Dt);exact rfl;exact rfl;exact rfl;exact aC)
 | ((with_reducible apply Du);exact rfl;exact rfl;exact rfl;exact aC)
 | ((with_reducible apply sa);exact rfl;exact rfl;exact rfl;exact aC)
 | ((with_reducible apply Dv);exact rfl;exact rfl;exact rfl;exact aC)
 | ((with_reducible apply Dy);exact rfl;exact rfl;exact aC)
 | ((with_reducible apply gu);exact rfl;exact rfl;exact rfl;exact wrap64 aa aa;exact aC)
 | ((with_reducible apply gN);exact rfl;exact rfl;exact rfl;exact wrap64 aa aa;exact aC)
 | ((with_reducible apply ur);exact dP.u;exact rfl;exact rfl;exact aC)
 | ((with_reducible apply zl);exact dP.u;exact rfl;exact rfl;exact aC)
 | ((with_reducible apply DJ);exact rfl;exact rfl;exact rfl;exact aC)
 | ((with_reducible apply Dz);exact rfl;exact rfl;exact rfl;exact aC)
 | ((with_reducible apply DA);exact rfl;exact rfl;exact rfl;exact aC)
 | ((with_reducible apply ko);exact inferInstance;exact rfl;exact rfl;exact rfl;exact aC)
 | ((with_reducible apply zh);exact inferInstance;exact rfl;exact rfl;exact rfl;exact aC)
 | ((with_reducible apply w9);exact dP.u;exact rfl;exact rfl;exact rfl;exact aC)
 | ((with_reducible apply FF);exact dP.u;exact rfl;exact rfl;exact rfl;exact aC)
 | ((with_reducible apply DL);exact rfl;exact rfl;exact rfl;exact aC)
 | ((with_reducible apply FL);exact rfl;exact rfl;exact pW;exact rfl;exact rfl;exact aC)
 | ((with_reducible apply FM);exact rfl;exact rfl;exact pW;exact rfl;exact rfl;exact aC)
 | ((with_reducible apply DB);exact inferInstance;exact rfl;exact rfl;exact aC)
 | ((with_reducible apply dm);exact rfl;exact rfl;exact dP.u;exact dP.u;exact wrap64 aa aa;exact aC)
 | ((with_reducible apply wB);exact rfl;exact rfl;exact rfl;exact aC)):p:=h
theorem Pl {p:Prop} (h:p:=by
 first
 | ((with_reducible apply FJ);exact rfl;exact rfl;exact rfl;exact pW;exact rfl;exact aC)
 | ((with_reducible apply DP);exact rfl;exact rfl;exact rfl;exact aC)
 | ((with_reducible apply FK);exact rfl;exact rfl;exact pW;exact rfl;exact FN)
 | exact FN):p:=h
theorem Pm {P:Program} {n:Nat} {ops:Array Oper} {HB:World→Prop} {a:Fr→Prop} {l:Fr} {L rest:List Oper} {o' o:Oper} {d:Nat} {v:Value} (b:L=o'::rest) (c:o'=o) (ak:o.dst=some d)
 (h: ∀w,HB w→az P n ops (ot ((d,v)::l) (λx=>x=w)) [o] l (λx=>x=w)) (e:gB P n ops HB a rest ((d,v)::l)):gB P n ops HB a L l:=by subst b;subst c;exact aI ak h e
theorem Pn {P:Program} {n:Nat} {ops:Array Oper} {HB:World→Prop} {a:Fr→Prop} {l:Fr} {L:List Oper} (b:L=[]) (h:a l):gB P n ops HB a L l:=by subst b;exact pR h
theorem Po {P:Program} {n:Nat} {os:List Oper} {Q:cq} {k:Nat} {a:List (List (Nat × Bool × List Nat))} {HBa:World→Prop} {l:Fr} {H:World→Prop} {s:Nat × Bool × List Nat} {o:Oper} (b:k9 a=[s]) (c:os.getD s.1 default=o)
 (h:az P n os.toArray (qR (λl' w'=>(s.2.1=true∨HBa w')∧ ∃HB:World→Prop,HB w'∧gB P n os.toArray HB (λd=>jc P n os Q k (k_ s.1 a) (λx=>(s.2.1=true∨HBa x)∧HB x) d (λx=>x=w')) (s.2.2.map (λq=>os.getD q default)) l')) [o] l H):
 jc P n os Q (k+1) a HBa l H:=sx [s] b (qB.2 ⟨c▸h,by simp⟩)
theorem eL {p q:Prop} (k:q) (h:eG q→p:=by
 intro k;first
 | ((with_reducible apply my);exact k.o)
 | ((with_reducible apply gl);exact rfl;exact rfl;exact k.o)
 | ((with_reducible apply bV (λ_=>True));(first | exact (λ_ _=> .inl rfl) | exact (λ_ h=> .inr h) | exact (λ_ h=> .inr ⟨.inr h,aT⟩));exact (λ_ _=>aT);exact k.o)
 | ((with_reducible apply r7);exact k.o)
 | ((with_reducible apply k0);exact k.o)
 | ((with_reducible apply m_);exact k.o)
 | ((with_reducible apply za);exact rfl;exact rfl;exact k.o)
 | ((with_reducible apply Pm);(conv=>lhs;whnf);(conv=>lhs;whnf);exact rfl;intro a b;exact Pl;exact k.o)
 | ((with_reducible apply FJ);exact rfl;exact rfl;exact rfl;exact pW;exact rfl;exact k.o)
 | ((with_reducible apply FK);exact rfl;exact rfl;exact pW;exact rfl;exact k.o)
 | ((with_reducible apply Lc);exact k.o)
 | ((with_reducible apply Lb);exact k.o)
 | ((with_reducible apply k2);exact inferInstance;exact rfl;exact rfl;exact k.o)
 | ((with_reducible apply y8);exact k.o)
 | ((with_reducible apply Le);exact k.o)
 | ((with_reducible apply Lh);exact rfl;exact rfl;exact k.o)
 | ((with_reducible apply y9);exact rfl;exact k.o)
 | ((with_reducible apply zc);exact inferInstance;exact rfl;exact rfl;exact fM;exact rfl;exact k.o)
 | ((with_reducible apply Pn);exact rfl;exact k.o)
 | ((with_reducible apply wq);exact k.o)
 | ((with_reducible apply Dx);exact rfl;exact rfl;exact rfl;exact k.o)
 | ((with_reducible apply nq);exact rfl;exact rfl;exact k.o)
 | ((with_reducible apply FL);exact rfl;exact rfl;exact pW;exact rfl;exact rfl;exact k.o)
 | ((with_reducible apply FM);exact rfl;exact rfl;exact pW;exact rfl;exact rfl;exact k.o)
 | ((with_reducible apply gu);exact rfl;exact rfl;exact rfl;exact wrap64 aa aa;exact k.o)
 | ((with_reducible apply gN);exact rfl;exact rfl;exact rfl;exact wrap64 aa aa;exact k.o)
 | ((with_reducible apply Po);exact rfl;(conv=>lhs;whnf);exact k.o)
 | ((with_reducible apply Ld);exact k.o)
 | ((with_reducible apply eW);exact inferInstance;exact rfl;exact rfl;exact xe;exact rfl;exact FI;exact xd rfl;exact k.o)
 | ((with_reducible apply Lf);exact k.o)
 | ((with_reducible apply r4);exact k.o)
 | ((with_reducible apply r3);exact k.o)
 | ((with_reducible apply r6);exact k.o)
 | ((with_reducible apply Lg);exact k.o)
 | ((with_reducible apply zd);exact inferInstance;exact rfl;exact rfl;exact fM;exact rfl;exact rfl;exact k.o)
 | ((with_reducible apply DC);exact inferInstance;exact rfl;exact rfl;exact xe;exact rfl;exact xd rfl;exact k.o)
 | ((with_reducible apply Dt);exact rfl;exact rfl;exact rfl;exact k.o)
 | ((with_reducible apply w3);exact k.o)
 | ((with_reducible apply DJ);exact rfl;exact rfl;exact rfl;exact k.o)
 | ((with_reducible apply ur);exact dP.u;exact rfl;exact rfl;exact k.o)
 | ((with_reducible apply fD);exact rfl;exact rfl;exact k.o)
 | ((with_reducible apply eA);exact rfl;exact rfl;exact k.o)
 | ((with_reducible apply Lr);exact inferInstance;exact rfl;exact k.o)
 | ((with_reducible apply Ls);exact rfl;exact rfl;exact k.o)
 | ((with_reducible apply ko);exact inferInstance;exact rfl;exact rfl;exact rfl;exact k.o)
 | ((with_reducible apply LJ);exact rfl;exact cC.eR inferInstance rfl fM rfl rfl;exact k.o)
 | ((with_reducible apply Li);exact rfl;exact rfl;exact rfl;exact k.o)
 | ((with_reducible apply DP);exact rfl;exact rfl;exact rfl;exact k.o)
 | ((with_reducible apply Dv);exact rfl;exact rfl;exact rfl;exact k.o)
 | ((with_reducible apply zi);exact inferInstance;exact rfl;exact rfl;exact rfl;exact rfl;exact k.o)
 | ((with_reducible apply w9);exact dP.u;exact rfl;exact rfl;exact rfl;exact k.o)
 | ((with_reducible apply zh);exact inferInstance;exact rfl;exact rfl;exact rfl;exact k.o)
 | ((with_reducible apply sa);exact rfl;exact rfl;exact rfl;exact k.o)
 | ((with_reducible apply Dy);exact rfl;exact rfl;exact k.o)
 | ((with_reducible apply wr);exact rfl;exact rfl;exact rfl;exact k.o)
 | ((with_reducible apply DL);exact rfl;exact rfl;exact rfl;exact k.o)
 | ((with_reducible apply Du);exact rfl;exact rfl;exact rfl;exact k.o)
 | ((with_reducible apply zl);exact dP.u;exact rfl;exact rfl;exact k.o)
 | ((with_reducible apply Lt);exact rfl;exact rfl;exact rfl;exact k.o)
 | ((with_reducible apply DB);exact inferInstance;exact rfl;exact rfl;exact k.o)
 | ((with_reducible apply wB);exact rfl;exact rfl;exact rfl;exact k.o)
 | ((with_reducible apply Dz);exact rfl;exact rfl;exact rfl;exact k.o)
 | ((with_reducible apply DA);exact rfl;exact rfl;exact rfl;exact k.o)
 | ((with_reducible apply FF);exact dP.u;exact rfl;exact rfl;exact rfl;exact k.o)
 | ((with_reducible apply dm);exact rfl;exact rfl;exact dP.u;exact dP.u;exact wrap64 aa aa;exact k.o)
 | ((with_reducible apply Lj);exact rfl;exact rfl;exact rfl;exact rfl;exact k.o)
 | ((with_reducible apply Ds);exact rfl;exact k.o)
 | (apply r7;exact k.o)
 | (apply DC;exact inferInstance;exact rfl;exact rfl;exact xe;exact rfl;exact xd rfl;exact k.o)
 | (apply eW;exact inferInstance;exact rfl;exact rfl;exact xe;exact rfl;exact FI;exact xd rfl;exact k.o)
 | (apply zc;exact inferInstance;exact rfl;exact rfl;exact fM;exact rfl;exact k.o)
 | (apply zd;exact inferInstance;exact rfl;exact rfl;exact fM;exact rfl;exact rfl;exact k.o)
 | (apply gl;exact rfl;exact rfl;exact k.o)
 | (apply za;exact rfl;exact rfl;exact k.o)):p:=h ⟨k⟩
theorem ar {p q:Prop} (k:q) (h:eG q→p:=by intro k;(iterate 1 refine eL ?_);exact k.o):p:=h ⟨k⟩
theorem aq {p q:Prop} (k:q) (h:eG q→p:=by intro k;(iterate 2 refine eL ?_);exact k.o):p:=h ⟨k⟩
theorem ah {p q:Prop} (k:q) (h:eG q→p:=by intro k;(iterate 3 refine eL ?_);exact k.o):p:=h ⟨k⟩
theorem aS {p q:Prop} (k:q) (h:eG q→p:=by intro k;(iterate 4 refine eL ?_);exact k.o):p:=h ⟨k⟩
theorem ax {p q:Prop} (k:q) (h:eG q→p:=by intro k;(iterate 5 refine eL ?_);exact k.o):p:=h ⟨k⟩
theorem al {p q:Prop} (k:q) (h:eG q→p:=by intro k;(iterate 6 refine eL ?_);exact k.o):p:=h ⟨k⟩
theorem aD {p q:Prop} (k:q) (h:eG q→p:=by intro k;(iterate 7 refine eL ?_);exact k.o):p:=h ⟨k⟩
theorem aL {p q:Prop} (k:q) (h:eG q→p:=by intro k;(iterate 8 refine eL ?_);exact k.o):p:=h ⟨k⟩
theorem aJ {p q:Prop} (k:q) (h:eG q→p:=by intro k;(iterate 9 refine eL ?_);exact k.o):p:=h ⟨k⟩
theorem aR {p q:Prop} (k:q) (h:eG q→p:=by intro k;(iterate 10 refine eL ?_);exact k.o):p:=h ⟨k⟩
theorem bp {p q:Prop} (k:q) (h:eG q→p:=by intro k;(iterate 11 refine eL ?_);exact k.o):p:=h ⟨k⟩
theorem bB {p q:Prop} (k:q) (h:eG q→p:=by intro k;(iterate 12 refine eL ?_);exact k.o):p:=h ⟨k⟩
theorem bI {p q:Prop} (k:q) (h:eG q→p:=by intro k;(iterate 13 refine eL ?_);exact k.o):p:=h ⟨k⟩
theorem b_ {p q:Prop} (k:q) (h:eG q→p:=by intro k;(iterate 14 refine eL ?_);exact k.o):p:=h ⟨k⟩
theorem cI {p q:Prop} (k:q) (h:eG q→p:=by intro k;(iterate 15 refine eL ?_);exact k.o):p:=h ⟨k⟩
theorem dx {p q:Prop} (k:q) (h:eG q→p:=by intro k;(iterate 16 refine eL ?_);exact k.o):p:=h ⟨k⟩
theorem et {p q:Prop} (k:q) (h:eG q→p:=by intro k;(iterate 17 refine eL ?_);exact k.o):p:=h ⟨k⟩
theorem e4 {p q:Prop} (k:q) (h:eG q→p:=by intro k;(iterate 18 refine eL ?_);exact k.o):p:=h ⟨k⟩
theorem eM {p q:Prop} (k:q) (h:eG q→p:=by intro k;(iterate 19 refine eL ?_);exact k.o):p:=h ⟨k⟩
theorem hr {p q:Prop} (k:q) (h:eG q→p:=by intro k;(iterate 20 refine eL ?_);exact k.o):p:=h ⟨k⟩
theorem hs {p q:Prop} (k:q) (h:eG q→p:=by intro k;(iterate 21 refine eL ?_);exact k.o):p:=h ⟨k⟩
theorem kw {p q:Prop} (k:q) (h:eG q→p:=by intro k;(iterate 22 refine eL ?_);exact k.o):p:=h ⟨k⟩
theorem oD {p q:Prop} (k:q) (h:eG q→p:=by intro k;(iterate 23 refine eL ?_);exact k.o):p:=h ⟨k⟩
theorem jC {p q:Prop} (k:q) (h:eG q→p:=by intro k;(iterate 24 refine eL ?_);exact k.o):p:=h ⟨k⟩
theorem sE {p q:Prop} (k:q) (h:eG q→p:=by intro k;(iterate 25 refine eL ?_);exact k.o):p:=h ⟨k⟩
theorem lR {p q:Prop} (k:q) (h:eG q→p:=by intro k;(iterate 26 refine eL ?_);exact k.o):p:=h ⟨k⟩
theorem uN {p q:Prop} (k:q) (h:eG q→p:=by intro k;(iterate 27 refine eL ?_);exact k.o):p:=h ⟨k⟩
theorem xf {p q:Prop} (k:q) (h:eG q→p:=by intro k;(iterate 28 refine eL ?_);exact k.o):p:=h ⟨k⟩
theorem xg {p q:Prop} (k:q) (h:eG q→p:=by intro k;(iterate 29 refine eL ?_);exact k.o):p:=h ⟨k⟩
theorem xh {p q:Prop} (k:q) (h:eG q→p:=by intro k;(iterate 30 refine eL ?_);exact k.o):p:=h ⟨k⟩
theorem xi {p q:Prop} (k:q) (h:eG q→p:=by intro k;(iterate 31 refine eL ?_);exact k.o):p:=h ⟨k⟩
theorem Pp {p q:Prop} (k:q) (h:eG q→p:=by intro k;(iterate 32 refine eL ?_);exact k.o):p:=h ⟨k⟩
theorem Pq {p q:Prop} (k:q) (h:eG q→p:=by intro k;(iterate 40 refine eL ?_);exact k.o):p:=h ⟨k⟩
theorem Pr {p q:Prop} (k:q) (h:eG q→p:=by intro k;(iterate 42 refine eL ?_);exact k.o):p:=h ⟨k⟩
theorem Ps {p q:Prop} (k:q) (h:eG q→p:=by intro k;(iterate 51 refine eL ?_);exact k.o):p:=h ⟨k⟩
theorem Pt {p q:Prop} (k:q) (h:eG q→p:=by intro k;(iterate 64 refine eL ?_);exact k.o):p:=h ⟨k⟩
theorem aW {P:Program} {f:FuncId} {fn:Func} {c:Code} {vs:List Value} {w:World} {R:Ending→World→Prop} {n:Nat} (a:P.funcs[f]? = some fn) (b:fn.ntmps=n) (h:de P n c (Fin P n fn R) (oo vs 0) (af w [] [])) (d:fn.body=some c:=by exact rfl) (e:Nat.ble vs.length n=true:=by exact rfl):Calls P f vs.toArray w R:=Ph a b d e h
theorem bC {P:Program} {f:FuncId} {fn:Func} {c:Code} {vs:List Value} {w:World} {R:Ending→World→Prop} {n:Nat} {cs:List Chunk} (a:P.funcs[f]? = some fn) (b:fn.ntmps=n) (d:a8 w cs) (h:de P n c (Fin P n fn R) (oo vs 0) (af w (aA cs) cs)) (e:fn.body=some c:=by exact rfl) (g:Nat.ble vs.length n=true:=by exact rfl):Calls P f vs.toArray w R:=Pi a b d e g h
end
end Go.Proofs.YtoghoobfpcadbaaGreatDoor.Mq
