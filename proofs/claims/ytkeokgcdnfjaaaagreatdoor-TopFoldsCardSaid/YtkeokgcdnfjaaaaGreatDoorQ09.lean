/- part 9 of the proof -/
import Derived.Test.YtkeokgcdnfjaaaaGreatDoorQ08
namespace Go.Proofs.YtkeokgcdnfjaaaaGreatDoor.Mq
open Go Go.RowKit Go.Proofs Tryz
section
class dK (P:Program) (t:TypeId) (d:outParam TypeDesc):Prop where
 u:P.underlying t=some d
instance adA:dK prog 3 (.int .i64):=⟨underlying3⟩
instance adB:dK prog 5 (.int .u8):=⟨underlying5⟩
instance adC:dK prog 9 (.string):=⟨underlying9⟩
instance adD:dK prog 24 (.slice 31):=⟨underlying24⟩
instance adE:dK prog 27 (.pointer 82):=⟨underlying27⟩
instance adF:dK prog 32 (.slice 36):=⟨underlying32⟩
instance adG:dK prog 37 (.slice 42):=⟨underlying37⟩
instance adH:dK prog 46 (.slice 157):=⟨underlying46⟩
instance adI:dK prog 48 (.pointer 117):=⟨underlying48⟩
instance adJ:dK prog 49 (.pointer 113):=⟨underlying49⟩
instance adK:dK prog 50 (.pointer 97):=⟨underlying50⟩
instance adL:dK prog 62 (.slice 5):=⟨underlying62⟩
instance adM:dK prog 69 (.slice 40):=⟨underlying69⟩
instance adN:dK prog 74 (.slice 141):=⟨underlying74⟩
instance adO:dK prog 78 (.pointer 153):=⟨underlying78⟩
instance adP:dK prog 79 (.pointer 165):=⟨underlying79⟩
instance adQ:dK prog 87 (.pointer 215):=⟨underlying87⟩
instance adR:dK prog 92 (.pointer 94):=⟨underlying92⟩
instance adS:dK prog 95 (.slice 181):=⟨underlying95⟩
instance adT:dK prog 109 (.pointer 253):=⟨underlying109⟩
instance adU:dK prog 114 (.pointer 203):=⟨underlying114⟩
instance adV:dK prog 115 (.slice 179):=⟨underlying115⟩
instance adW:dK prog 134 (.slice 3):=⟨underlying134⟩
instance adX:dK prog 144 (.pointer 150):=⟨underlying144⟩
instance adY:dK prog 151 (.slice 144):=⟨underlying151⟩
instance adZ:dK prog 155 (.slice 282):=⟨underlying155⟩
instance ad0:dK prog 166 (.slice 170):=⟨underlying166⟩
instance ad1:dK prog 168 (.slice 134):=⟨underlying168⟩
instance ad2:dK prog 218 (.slice 21):=⟨underlying218⟩
instance ad3:dK prog 229 (.slice 231):=⟨underlying229⟩
instance ad4:dK prog 251 (.slice 34):=⟨underlying251⟩
instance ad5:dK prog 256 (.pointer 213):=⟨underlying256⟩
instance ad6:dK prog 258 (.int .u64):=⟨underlying258⟩
instance ad7:dK prog 322 (.slice 9):=⟨underlying322⟩
instance ad8:dK prog 399 (.slice 426):=⟨underlying399⟩
structure ey (q:Prop):Prop where
 o:q
theorem fG {p:Prop} (h:p:=by repeat (first | exact Has.head | apply Has.tail)):p:=h
theorem w5 {p:Prop} (h:p:=by repeat (first | exact bn.head | apply bn.tail)):p:=h
theorem Fz {p:Prop} (h:p:=by repeat (first | exact aI.nil | exact bA.iW _ _ | (apply aI.cons;exact rfl))):p:=h
theorem O2 {p:Prop} (h:p:=by repeat (first | exact bv.head | apply bv.tail)):p:=h
theorem ae {p:Prop} (h:p:=by repeat (first | exact aA.nil | (apply aA.cons;exact O2))):p:=h
theorem bO {p:Prop} (h:p:=by repeat (first | exact Sub.nil | (apply Sub.cons;exact rfl))):p:=h
theorem b4 {p:Prop} (h:p:=by simp only[b0,eK,jL,maxLen];omega):p:=h
theorem bm {p:Prop} (h:p:=by dsimp only;omega):p:=h
theorem bU: (∀b:Bool,((!b)=true)=(b=false))∧(∀b:Bool,((!b)=false)=(b=true))∧(∀(p:Prop) [Decidable p],(decide p=false)= ¬p)∧ ∀(p:Prop) [Decidable p],(decide p=true)=p:=⟨a1,a1,λp _=>by simp,λp _=>by simp⟩
theorem aN {ι:Type} {v:ι→Value} {l:List Chunk} {l':ι→List Chunk} {ok:ι→Prop} {w w':World} {x:Value} {cs r:List Chunk} (i:ι) (hi:ok i) (h:af w (aB l) cs w') (a:aA cs (l' i) r:=by exact ae) (b:x=v i:=by exact rfl):aP v l l' ok w (.returned x) w':=aP.bP i hi b (h.aw a)
theorem aj {P:Program} {n:Nat} {Q:cl} {l:Fr} {H:World→Prop} {a b:Code} {c:Operand} {p:Prop} [Decidable p] (d:p→dc P n a Q l H) (e: ¬p→dc P n b Q l H) (f:a_ l c=some (.bool (decide p)):=by exact rfl):dc P n (.cond c a b) Q l H:=pt f d e
theorem pP {p:Prop} (h:p:=by first | with_reducible exact (rfl:true=true) | with_reducible exact (rfl:false=false) | assumption | exact b1 bz | exact cm bz | exact cm (λh=>h rfl) | exact rfl):p:=h
section
variable {P:Program} {n:Nat} {ops:Array Oper} {Q:cl} {rest:List Oper} {l:Fr} {H:World→Prop} {d:Nat} {ty:TypeId} {pos:String} {a6:Array Edge}
theorem FA {c:Op} {j u:Nat} {a b t:Bool} (ak:Nat.blt d n=true) (e: (ops[j]?).bind (·.dst)=some u) (f:look l u=some (.bool b)) (g:b=t) (i:t= !a) (h:az P n ops Q rest ((d,undef)::l) H):az P n ops Q (⟨some d,c,ty,pos,a6,some (j,a)⟩::rest) l H:=fW ak e f (g.trans i) h
theorem FB {a:Op} {c:Option Nat} {j u:Nat} {d b t:Bool} (e: (ops[j]?).bind (·.dst)=some u) (f:look l u=some (.bool b)) (g:b=t) (i:t=d) (h:az P n ops Q (⟨c,a,ty,pos,a6,none⟩::rest) l H):az P n ops Q (⟨c,a,ty,pos,a6,some (j,d)⟩::rest) l H:=cA e f (g.trans i) h
theorem FC {c x y:Operand} {v:Value} {b t:Bool} (ak:Nat.blt d n=true) (a:a_ l c=some (.bool b)) (e:b=t) (f:t=true) (g:a_ l x=some v) (h:az P n ops Q rest ((d,v)::l) H):az P n ops Q (⟨some d,.pick c x y,ty,pos,a6,none⟩::rest) l H:=zb ak a (e.trans f) g h
theorem FD {c x y:Operand} {v:Value} {b t:Bool} (ak:Nat.blt d n=true) (a:a_ l c=some (.bool b)) (e:b=t) (f:t=false) (g:a_ l y=some v) (h:az P n ops Q rest ((d,v)::l) H):az P n ops Q (⟨some d,.pick c x y,ty,pos,a6,none⟩::rest) l H:=kj ak a (e.trans f) g h
theorem bG {id:Nat} {os:List Oper} {b:World} {S:List Nat} {cs:List Chunk} (b8:List Nat) (a:Nat) (c:List (List (Nat × Bool × List Nat)))
 (h:gt prog n os.toArray (af b S cs) (λe=>i8 prog n os Q a c (af b S cs) e (af b S cs)) (b8.map (λq=>os.getD q default)) l) (f:z7 n b8 a c os=true:=by kernel_rfl):dc prog n (.region id os.toArray true) Q l (af b S cs):=ew b8 a c (af b S cs) mixed f (λ_ d=>d.drew) (λ_ d=>d) h
theorem cI {b:World} {S:List Nat} {cs cs':List Chunk} {ι:Type} {args:List Operand} {c_:Array TypeId} {f:FuncId} {vs:List Value} {v:ι→Value} {l0:List Chunk} {ok:ι→Prop} {l':ι→List Chunk} (c: ∀w,bb w l0→Calls P f vs.toArray w (aP v l0 l' ok w)) (h: ∀i,ok i→az P n ops Q rest ((d,v i)::l) (af b S (l' i++cs')))
 (e:cH l args=some vs:=by exact rfl) (ak:Nat.blt d n=true:=by exact rfl) (a:aA cs l0 cs':=by exact ae) (g:ad P f:=by exact inferInstance):az P n ops Q (⟨some d,.call ⟨.value (.func f),args.toArray,c_⟩,ty,pos,a6,none⟩::rest) l (af b S cs):=aZ a ak g e (λw j=>c w (j.bp a)) h
end
theorem FE {P:Program} {n:Nat} {os:List Oper} {Q:cl} {k:Nat} {a:List (List (Nat × Bool × List Nat))} {HBa:World→Prop} {l:Fr} {H:World→Prop} {s u:Nat × Bool × List Nat} {o c:Oper}
 (h:az P n os.toArray (qL (λl' w'=>(s.2.1=true∨HBa w')∧ ∃HB:World→Prop,HB w'∧gt P n os.toArray HB (λb=>i8 P n os Q k (k2 s.1 a) (λx=>(s.2.1=true∨HBa x)∧HB x) b (λx=>x=w')) (s.2.2.map (λq=>os.getD q default)) l')) [o] l H)
 (d:az P n os.toArray (qL (λl' w'=>(u.2.1=true∨HBa w')∧ ∃HB:World→Prop,HB w'∧gt P n os.toArray HB (λb=>i8 P n os Q k (k2 u.1 a) (λx=>(u.2.1=true∨HBa x)∧HB x) b (λx=>x=w')) (u.2.2.map (λq=>os.getD q default)) l')) [c] l H)
 (e:k1 a=[s,u]:=by exact rfl) (f:os.getD s.1 default=o:=by conv=>lhs;whnf) (g:os.getD u.1 default=c:=by conv=>lhs;whnf):i8 P n os Q (k+1) a HBa l H:=sm [s,u] e (tW.2 ⟨f▸h,tW.2 ⟨g▸d,by simp⟩⟩)
theorem O3 {P:Program} {n:Nat} {ops:Array Oper} {l:Fr} {d:Nat} {ty:TypeId} {pos:String} {a6:Array Edge} {x:Operand} {t sz:Nat} {z vs xs:List Value} {g o:Nat} {te:TypeId} {b a:World} {S:List Nat} {cs:List Chunk} (c:cB P t sz z) (ak:Nat.blt d n=true) (e:a_ l x=some (.pointer (some ⟨g,o,none⟩))) (f:af b S cs a) (h:Has cs (aD g xs te)) (i: (xs.drop o).take sz=vs) (k:vs.length=sz):
 az P n ops (oh ((d,.agg vs.toArray)::l) (λx=>x=a)) [⟨some d,.load t x,ty,pos,a6,none⟩] l (λx=>x=a):=cw c ak e k (λq m j u p=>by subst m;exact f.kY (sz:=sz) h i j u p) aG
theorem FF {p:Prop} (h:p:=by
 first
 | ((with_reducible apply hW);exact rfl;exact rfl;exact aG)
 | ((with_reducible apply y3);exact rfl;exact rfl;exact aG)
 | ((with_reducible apply ni);exact rfl;exact rfl;exact aG)
 | ((with_reducible apply m5);exact inferInstance;exact rfl;exact rfl;exact aG)
 | ((with_reducible apply y5);exact inferInstance;exact rfl;exact rfl;exact fG;exact rfl;exact aG)
 | ((with_reducible apply y6);exact inferInstance;exact rfl;exact rfl;exact fG;exact rfl;exact rfl;exact aG)
 | ((with_reducible apply ba);exact inferInstance;exact rfl;exact rfl;intro b a;subst a;(first | apply af.eM bz | apply pJ.eM bz);exact fG;exact rfl;exact aG)
 | ((with_reducible apply O3);exact inferInstance;exact rfl;exact rfl;assumption;exact fG;exact rfl;exact rfl)
 | ((with_reducible apply Dl);exact rfl;exact rfl;exact rfl;exact aG)
 | ((with_reducible apply we);exact rfl;exact rfl;exact rfl;exact aG)
 | ((with_reducible apply Dg);exact rfl;exact rfl;exact rfl;exact aG)
 | ((with_reducible apply Dh);exact rfl;exact rfl;exact rfl;exact aG)
 | ((with_reducible apply Di);exact rfl;exact rfl;exact rfl;exact aG)
 | ((with_reducible apply Dj);exact rfl;exact rfl;exact rfl;exact aG)
 | ((with_reducible apply Dm);exact rfl;exact rfl;exact aG)
 | ((with_reducible apply gH);exact rfl;exact rfl;exact rfl;exact wrap64 aa aa;exact aG)
 | ((with_reducible apply gI);exact rfl;exact rfl;exact rfl;exact wrap64 aa aa;exact aG)
 | ((with_reducible apply Dp);exact dK.u;exact rfl;exact rfl;exact aG)
 | ((with_reducible apply DB);exact dK.u;exact rfl;exact rfl;exact aG)
 | ((with_reducible apply Dz);exact rfl;exact rfl;exact rfl;exact aG)
 | ((with_reducible apply Dn);exact rfl;exact rfl;exact rfl;exact aG)
 | ((with_reducible apply Do);exact rfl;exact rfl;exact rfl;exact aG)
 | ((with_reducible apply ki);exact inferInstance;exact rfl;exact rfl;exact rfl;exact aG)
 | ((with_reducible apply y_);exact inferInstance;exact rfl;exact rfl;exact rfl;exact aG)
 | ((with_reducible apply wZ);exact dK.u;exact rfl;exact rfl;exact rfl;exact aG)
 | ((with_reducible apply Fw);exact dK.u;exact rfl;exact rfl;exact rfl;exact aG)
 | ((with_reducible apply DC);exact rfl;exact rfl;exact rfl;exact aG)
 | ((with_reducible apply FC);exact rfl;exact rfl;exact pP;exact rfl;exact rfl;exact aG)
 | ((with_reducible apply FD);exact rfl;exact rfl;exact pP;exact rfl;exact rfl;exact aG)
 | ((with_reducible apply Dq);exact inferInstance;exact rfl;exact rfl;exact aG)
 | ((with_reducible apply dl);exact rfl;exact rfl;exact dK.u;exact dK.u;exact wrap64 aa aa;exact aG)
 | ((with_reducible apply wm);exact rfl;exact rfl;exact rfl;exact aG)):p:=h
theorem O4 {p:Prop} (h:p:=by
 first
 | ((with_reducible apply FA);exact rfl;exact rfl;exact rfl;exact pP;exact rfl;exact aG)
 | ((with_reducible apply DH);exact rfl;exact rfl;exact rfl;exact aG)
 | ((with_reducible apply FB);exact rfl;exact rfl;exact pP;exact rfl;exact FF)
 | exact FF):p:=h
theorem O5 {P:Program} {n:Nat} {ops:Array Oper} {HB:World→Prop} {a:Fr→Prop} {l:Fr} {L rest:List Oper} {o' o:Oper} {d:Nat} {v:Value} (b:L=o'::rest) (c:o'=o) (ak:o.dst=some d)
 (h: ∀w,HB w→az P n ops (oh ((d,v)::l) (λx=>x=w)) [o] l (λx=>x=w)) (e:gt P n ops HB a rest ((d,v)::l)):gt P n ops HB a L l:=by subst b;subst c;exact aL ak h e
theorem O6 {P:Program} {n:Nat} {ops:Array Oper} {HB:World→Prop} {a:Fr→Prop} {l:Fr} {L:List Oper} (b:L=[]) (h:a l):gt P n ops HB a L l:=by subst b;exact pK h
theorem O7 {P:Program} {n:Nat} {os:List Oper} {Q:cl} {k:Nat} {a:List (List (Nat × Bool × List Nat))} {HBa:World→Prop} {l:Fr} {H:World→Prop} {s:Nat × Bool × List Nat} {o:Oper} (b:k1 a=[s]) (c:os.getD s.1 default=o)
 (h:az P n os.toArray (qL (λl' w'=>(s.2.1=true∨HBa w')∧ ∃HB:World→Prop,HB w'∧gt P n os.toArray HB (λd=>i8 P n os Q k (k2 s.1 a) (λx=>(s.2.1=true∨HBa x)∧HB x) d (λx=>x=w')) (s.2.2.map (λq=>os.getD q default)) l')) [o] l H):
 i8 P n os Q (k+1) a HBa l H:=sm [s] b (tW.2 ⟨c▸h,by simp⟩)
theorem eF {p q:Prop} (k:q) (h:ey q→p:=by
 intro k;first
 | ((with_reducible apply mr);exact k.o)
 | ((with_reducible apply hW);exact rfl;exact rfl;exact k.o)
 | ((with_reducible apply bY (λ_=>True));(first | exact (λ_ _=> .inl rfl) | exact (λ_ h=> .inr h) | exact (λ_ h=> .inr ⟨.inr h,aU⟩));exact (λ_ _=>aU);exact k.o)
 | ((with_reducible apply rZ);exact k.o)
 | ((with_reducible apply kU);exact k.o)
 | ((with_reducible apply mY);exact k.o)
 | ((with_reducible apply y3);exact rfl;exact rfl;exact k.o)
 | ((with_reducible apply O5);(conv=>lhs;whnf);(conv=>lhs;whnf);exact rfl;intro a b;exact O4;exact k.o)
 | ((with_reducible apply FA);exact rfl;exact rfl;exact rfl;exact pP;exact rfl;exact k.o)
 | ((with_reducible apply FB);exact rfl;exact rfl;exact pP;exact rfl;exact k.o)
 | ((with_reducible apply K4);exact k.o)
 | ((with_reducible apply K3);exact k.o)
 | ((with_reducible apply m5);exact inferInstance;exact rfl;exact rfl;exact k.o)
 | ((with_reducible apply y0);exact k.o)
 | ((with_reducible apply K6);exact k.o)
 | ((with_reducible apply K9);exact rfl;exact rfl;exact k.o)
 | ((with_reducible apply y1);exact rfl;exact k.o)
 | ((with_reducible apply y5);exact inferInstance;exact rfl;exact rfl;exact fG;exact rfl;exact k.o)
 | ((with_reducible apply O6);exact rfl;exact k.o)
 | ((with_reducible apply wc);exact k.o)
 | ((with_reducible apply Dl);exact rfl;exact rfl;exact rfl;exact k.o)
 | ((with_reducible apply ni);exact rfl;exact rfl;exact k.o)
 | ((with_reducible apply FC);exact rfl;exact rfl;exact pP;exact rfl;exact rfl;exact k.o)
 | ((with_reducible apply FD);exact rfl;exact rfl;exact pP;exact rfl;exact rfl;exact k.o)
 | ((with_reducible apply gH);exact rfl;exact rfl;exact rfl;exact wrap64 aa aa;exact k.o)
 | ((with_reducible apply gI);exact rfl;exact rfl;exact rfl;exact wrap64 aa aa;exact k.o)
 | ((with_reducible apply O7);exact rfl;(conv=>lhs;whnf);exact k.o)
 | ((with_reducible apply K5);exact k.o)
 | ((with_reducible apply eX);exact inferInstance;exact rfl;exact rfl;exact w5;exact rfl;exact Fz;exact w4 rfl;exact k.o)
 | ((with_reducible apply K7);exact k.o)
 | ((with_reducible apply rW);exact k.o)
 | ((with_reducible apply rV);exact k.o)
 | ((with_reducible apply rY);exact k.o)
 | ((with_reducible apply K8);exact k.o)
 | ((with_reducible apply y6);exact inferInstance;exact rfl;exact rfl;exact fG;exact rfl;exact rfl;exact k.o)
 | ((with_reducible apply Ds);exact inferInstance;exact rfl;exact rfl;exact w5;exact rfl;exact w4 rfl;exact k.o)
 | ((with_reducible apply Dg);exact rfl;exact rfl;exact rfl;exact k.o)
 | ((with_reducible apply wT);exact k.o)
 | ((with_reducible apply Dz);exact rfl;exact rfl;exact rfl;exact k.o)
 | ((with_reducible apply Dp);exact dK.u;exact rfl;exact rfl;exact k.o)
 | ((with_reducible apply fL);exact rfl;exact rfl;exact k.o)
 | ((with_reducible apply ev);exact rfl;exact rfl;exact k.o)
 | ((with_reducible apply Li);exact inferInstance;exact rfl;exact k.o)
 | ((with_reducible apply Lj);exact rfl;exact rfl;exact k.o)
 | ((with_reducible apply ki);exact inferInstance;exact rfl;exact rfl;exact rfl;exact k.o)
 | ((with_reducible apply LA);exact rfl;exact cx.eR inferInstance rfl fG rfl rfl;exact k.o)
 | ((with_reducible apply K_);exact rfl;exact rfl;exact rfl;exact k.o)
 | ((with_reducible apply DH);exact rfl;exact rfl;exact rfl;exact k.o)
 | ((with_reducible apply Dj);exact rfl;exact rfl;exact rfl;exact k.o)
 | ((with_reducible apply za);exact inferInstance;exact rfl;exact rfl;exact rfl;exact rfl;exact k.o)
 | ((with_reducible apply wZ);exact dK.u;exact rfl;exact rfl;exact rfl;exact k.o)
 | ((with_reducible apply y_);exact inferInstance;exact rfl;exact rfl;exact rfl;exact k.o)
 | ((with_reducible apply Di);exact rfl;exact rfl;exact rfl;exact k.o)
 | ((with_reducible apply Dm);exact rfl;exact rfl;exact k.o)
 | ((with_reducible apply we);exact rfl;exact rfl;exact rfl;exact k.o)
 | ((with_reducible apply DC);exact rfl;exact rfl;exact rfl;exact k.o)
 | ((with_reducible apply Dh);exact rfl;exact rfl;exact rfl;exact k.o)
 | ((with_reducible apply DB);exact dK.u;exact rfl;exact rfl;exact k.o)
 | ((with_reducible apply Lk);exact rfl;exact rfl;exact rfl;exact k.o)
 | ((with_reducible apply Dq);exact inferInstance;exact rfl;exact rfl;exact k.o)
 | ((with_reducible apply wm);exact rfl;exact rfl;exact rfl;exact k.o)
 | ((with_reducible apply Dn);exact rfl;exact rfl;exact rfl;exact k.o)
 | ((with_reducible apply Do);exact rfl;exact rfl;exact rfl;exact k.o)
 | ((with_reducible apply Fw);exact dK.u;exact rfl;exact rfl;exact rfl;exact k.o)
 | ((with_reducible apply dl);exact rfl;exact rfl;exact dK.u;exact dK.u;exact wrap64 aa aa;exact k.o)
 | ((with_reducible apply La);exact rfl;exact rfl;exact rfl;exact rfl;exact k.o)
 | ((with_reducible apply Df);exact rfl;exact k.o)
 | (apply rZ;exact k.o)
 | (apply Ds;exact inferInstance;exact rfl;exact rfl;exact w5;exact rfl;exact w4 rfl;exact k.o)
 | (apply eX;exact inferInstance;exact rfl;exact rfl;exact w5;exact rfl;exact Fz;exact w4 rfl;exact k.o)
 | (apply y5;exact inferInstance;exact rfl;exact rfl;exact fG;exact rfl;exact k.o)
 | (apply y6;exact inferInstance;exact rfl;exact rfl;exact fG;exact rfl;exact rfl;exact k.o)
 | (apply hW;exact rfl;exact rfl;exact k.o)
 | (apply y3;exact rfl;exact rfl;exact k.o)):p:=h ⟨k⟩
theorem aq {p q:Prop} (k:q) (h:ey q→p:=by intro k;(iterate 1 refine eF ?_);exact k.o):p:=h ⟨k⟩
theorem ar {p q:Prop} (k:q) (h:ey q→p:=by intro k;(iterate 2 refine eF ?_);exact k.o):p:=h ⟨k⟩
theorem ah {p q:Prop} (k:q) (h:ey q→p:=by intro k;(iterate 3 refine eF ?_);exact k.o):p:=h ⟨k⟩
theorem aS {p q:Prop} (k:q) (h:ey q→p:=by intro k;(iterate 4 refine eF ?_);exact k.o):p:=h ⟨k⟩
theorem ay {p q:Prop} (k:q) (h:ey q→p:=by intro k;(iterate 5 refine eF ?_);exact k.o):p:=h ⟨k⟩
theorem al {p q:Prop} (k:q) (h:ey q→p:=by intro k;(iterate 6 refine eF ?_);exact k.o):p:=h ⟨k⟩
theorem aC {p q:Prop} (k:q) (h:ey q→p:=by intro k;(iterate 7 refine eF ?_);exact k.o):p:=h ⟨k⟩
theorem aK {p q:Prop} (k:q) (h:ey q→p:=by intro k;(iterate 8 refine eF ?_);exact k.o):p:=h ⟨k⟩
theorem aJ {p q:Prop} (k:q) (h:ey q→p:=by intro k;(iterate 9 refine eF ?_);exact k.o):p:=h ⟨k⟩
theorem aR {p q:Prop} (k:q) (h:ey q→p:=by intro k;(iterate 10 refine eF ?_);exact k.o):p:=h ⟨k⟩
theorem bo {p q:Prop} (k:q) (h:ey q→p:=by intro k;(iterate 11 refine eF ?_);exact k.o):p:=h ⟨k⟩
theorem bw {p q:Prop} (k:q) (h:ey q→p:=by intro k;(iterate 12 refine eF ?_);exact k.o):p:=h ⟨k⟩
theorem bH {p q:Prop} (k:q) (h:ey q→p:=by intro k;(iterate 13 refine eF ?_);exact k.o):p:=h ⟨k⟩
theorem b5 {p q:Prop} (k:q) (h:ey q→p:=by intro k;(iterate 14 refine eF ?_);exact k.o):p:=h ⟨k⟩
theorem cE {p q:Prop} (k:q) (h:ey q→p:=by intro k;(iterate 15 refine eF ?_);exact k.o):p:=h ⟨k⟩
theorem dB {p q:Prop} (k:q) (h:ey q→p:=by intro k;(iterate 16 refine eF ?_);exact k.o):p:=h ⟨k⟩
theorem ef {p q:Prop} (k:q) (h:ey q→p:=by intro k;(iterate 17 refine eF ?_);exact k.o):p:=h ⟨k⟩
theorem eT {p q:Prop} (k:q) (h:ey q→p:=by intro k;(iterate 18 refine eF ?_);exact k.o):p:=h ⟨k⟩
theorem eG {p q:Prop} (k:q) (h:ey q→p:=by intro k;(iterate 19 refine eF ?_);exact k.o):p:=h ⟨k⟩
theorem hh {p q:Prop} (k:q) (h:ey q→p:=by intro k;(iterate 20 refine eF ?_);exact k.o):p:=h ⟨k⟩
theorem gN {p q:Prop} (k:q) (h:ey q→p:=by intro k;(iterate 21 refine eF ?_);exact k.o):p:=h ⟨k⟩
theorem kq {p q:Prop} (k:q) (h:ey q→p:=by intro k;(iterate 22 refine eF ?_);exact k.o):p:=h ⟨k⟩
theorem nl {p q:Prop} (k:q) (h:ey q→p:=by intro k;(iterate 23 refine eF ?_);exact k.o):p:=h ⟨k⟩
theorem jc {p q:Prop} (k:q) (h:ey q→p:=by intro k;(iterate 24 refine eF ?_);exact k.o):p:=h ⟨k⟩
theorem sv {p q:Prop} (k:q) (h:ey q→p:=by intro k;(iterate 25 refine eF ?_);exact k.o):p:=h ⟨k⟩
theorem lJ {p q:Prop} (k:q) (h:ey q→p:=by intro k;(iterate 26 refine eF ?_);exact k.o):p:=h ⟨k⟩
theorem qX {p q:Prop} (k:q) (h:ey q→p:=by intro k;(iterate 27 refine eF ?_);exact k.o):p:=h ⟨k⟩
theorem w6 {p q:Prop} (k:q) (h:ey q→p:=by intro k;(iterate 28 refine eF ?_);exact k.o):p:=h ⟨k⟩
theorem w7 {p q:Prop} (k:q) (h:ey q→p:=by intro k;(iterate 29 refine eF ?_);exact k.o):p:=h ⟨k⟩
theorem w8 {p q:Prop} (k:q) (h:ey q→p:=by intro k;(iterate 30 refine eF ?_);exact k.o):p:=h ⟨k⟩
theorem Ah {p q:Prop} (k:q) (h:ey q→p:=by intro k;(iterate 31 refine eF ?_);exact k.o):p:=h ⟨k⟩
theorem O8 {p q:Prop} (k:q) (h:ey q→p:=by intro k;(iterate 32 refine eF ?_);exact k.o):p:=h ⟨k⟩
theorem O9 {p q:Prop} (k:q) (h:ey q→p:=by intro k;(iterate 38 refine eF ?_);exact k.o):p:=h ⟨k⟩
theorem FG {p q:Prop} (k:q) (h:ey q→p:=by intro k;(iterate 40 refine eF ?_);exact k.o):p:=h ⟨k⟩
theorem O_ {p q:Prop} (k:q) (h:ey q→p:=by intro k;(iterate 42 refine eF ?_);exact k.o):p:=h ⟨k⟩
theorem Pb {p q:Prop} (k:q) (h:ey q→p:=by intro k;(iterate 51 refine eF ?_);exact k.o):p:=h ⟨k⟩
theorem Pc {p q:Prop} (k:q) (h:ey q→p:=by intro k;(iterate 64 refine eF ?_);exact k.o):p:=h ⟨k⟩
theorem aW {P:Program} {f:FuncId} {fn:Func} {c:Code} {vs:List Value} {w:World} {R:Ending→World→Prop} {n:Nat} (a:P.funcs[f]? = some fn) (b:fn.ntmps=n) (h:dc P n c (Fin P n fn R) (oe vs 0) (af w [] [])) (d:fn.body=some c:=by exact rfl) (e:Nat.ble vs.length n=true:=by exact rfl):Calls P f vs.toArray w R:=O0 a b d e h
theorem bI {P:Program} {f:FuncId} {fn:Func} {c:Code} {vs:List Value} {w:World} {R:Ending→World→Prop} {n:Nat} {cs:List Chunk} (a:P.funcs[f]? = some fn) (b:fn.ntmps=n) (d:bb w cs) (h:dc P n c (Fin P n fn R) (oe vs 0) (af w (aB cs) cs)) (e:fn.body=some c:=by exact rfl) (g:Nat.ble vs.length n=true:=by exact rfl):Calls P f vs.toArray w R:=O1 a b d e g h
end
end Go.Proofs.YtkeokgcdnfjaaaaGreatDoor.Mq
