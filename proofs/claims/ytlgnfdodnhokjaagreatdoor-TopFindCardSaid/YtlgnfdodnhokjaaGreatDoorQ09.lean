/- part 9 of the proof -/
import Derived.Test.YtlgnfdodnhokjaaGreatDoorQ08
namespace Go.Proofs.YtlgnfdodnhokjaaGreatDoor.Mq
open Go Go.RowKit Go.Proofs Tryz
section
class dM (P:Program) (t:TypeId) (d:outParam TypeDesc):Prop where
 u:P.underlying t=some d
instance aeq:dM prog 3 (.int .i64):=⟨underlying3⟩
instance aer:dM prog 5 (.int .u8):=⟨underlying5⟩
instance aes:dM prog 9 (.string):=⟨underlying9⟩
instance aet:dM prog 24 (.slice 31):=⟨underlying24⟩
instance aeu:dM prog 27 (.pointer 100):=⟨underlying27⟩
instance aev:dM prog 32 (.slice 144):=⟨underlying32⟩
instance aew:dM prog 36 (.slice 35):=⟨underlying36⟩
instance aex:dM prog 51 (.slice 5):=⟨underlying51⟩
instance aey:dM prog 55 (.slice 58):=⟨underlying55⟩
instance aez:dM prog 63 (.pointer 141):=⟨underlying63⟩
instance aeA:dM prog 64 (.pointer 137):=⟨underlying64⟩
instance aeB:dM prog 65 (.pointer 121):=⟨underlying65⟩
instance aeC:dM prog 73 (.slice 3):=⟨underlying73⟩
instance aeD:dM prog 75 (.pointer 77):=⟨underlying75⟩
instance aeE:dM prog 90 (.pointer 164):=⟨underlying90⟩
instance aeF:dM prog 93 (.pointer 166):=⟨underlying93⟩
instance aeG:dM prog 110 (.slice 198):=⟨underlying110⟩
instance aeH:dM prog 114 (.pointer 230):=⟨underlying114⟩
instance aeI:dM prog 119 (.slice 182):=⟨underlying119⟩
instance aeJ:dM prog 133 (.pointer 263):=⟨underlying133⟩
instance aeK:dM prog 138 (.pointer 208):=⟨underlying138⟩
instance aeL:dM prog 139 (.slice 180):=⟨underlying139⟩
instance aeM:dM prog 142 (.slice 215):=⟨underlying142⟩
instance aeN:dM prog 151 (.slice 153):=⟨underlying151⟩
instance aeO:dM prog 162 (.slice 188):=⟨underlying162⟩
instance aeP:dM prog 167 (.slice 171):=⟨underlying167⟩
instance aeQ:dM prog 169 (.slice 73):=⟨underlying169⟩
instance aeR:dM prog 188 (.pointer 194):=⟨underlying188⟩
instance aeS:dM prog 205 (.slice 256):=⟨underlying205⟩
instance aeT:dM prog 233 (.slice 21):=⟨underlying233⟩
instance aeU:dM prog 261 (.slice 54):=⟨underlying261⟩
instance aeV:dM prog 266 (.pointer 228):=⟨underlying266⟩
instance aeW:dM prog 268 (.int .u64):=⟨underlying268⟩
instance aeX:dM prog 324 (.slice 9):=⟨underlying324⟩
instance aeY:dM prog 398 (.slice 425):=⟨underlying398⟩
structure eK (q:Prop):Prop where
 o:q
theorem fS {p:Prop} (h:p:=by repeat (first | exact Has.head | apply Has.tail)):p:=h
theorem xp {p:Prop} (h:p:=by repeat (first | exact bn.head | apply bn.tail)):p:=h
theorem F0 {p:Prop} (h:p:=by repeat (first | exact aI.nil | exact bA.jc _ _ | (apply aI.cons;exact rfl))):p:=h
theorem PQ {p:Prop} (h:p:=by repeat (first | exact bw.head | apply bw.tail)):p:=h
theorem ae {p:Prop} (h:p:=by repeat (first | exact aA.nil | (apply aA.cons;exact PQ))):p:=h
theorem bR {p:Prop} (h:p:=by repeat (first | exact Sub.nil | (apply Sub.cons;exact rfl))):p:=h
theorem b4 {p:Prop} (h:p:=by simp only[b6,eO,lL,maxLen];omega):p:=h
theorem bm {p:Prop} (h:p:=by dsimp only;omega):p:=h
theorem bZ: (∀b:Bool,((!b)=true)=(b=false))∧(∀b:Bool,((!b)=false)=(b=true))∧(∀(p:Prop) [Decidable p],(decide p=false)= ¬p)∧ ∀(p:Prop) [Decidable p],(decide p=true)=p:=⟨aZ,aZ,λp _=>by simp,λp _=>by simp⟩
theorem aN {ι:Type} {v:ι→Value} {l:List Chunk} {l':ι→List Chunk} {ok:ι→Prop} {w w':World} {x:Value} {cs r:List Chunk} (i:ι) (hi:ok i) (h:af w (aB l) cs w') (a:aA cs (l' i) r:=by exact ae) (b:x=v i:=by exact rfl):aP v l l' ok w (.returned x) w':=aP.bQ i hi b (h.ax a)
theorem aj {P:Program} {n:Nat} {Q:cq} {l:Fr} {H:World→Prop} {a b:Code} {c:Operand} {p:Prop} [Decidable p] (d:p→dc P n a Q l H) (e: ¬p→dc P n b Q l H) (f:ba l c=some (.bool (decide p)):=by exact rfl):dc P n (.cond c a b) Q l H:=pH f d e
theorem p1 {p:Prop} (h:p:=by first | with_reducible exact (rfl:true=true) | with_reducible exact (rfl:false=false) | assumption | exact bX bv | exact cg bv | exact cg (λh=>h rfl) | exact rfl):p:=h
section
variable {P:Program} {n:Nat} {ops:Array Oper} {Q:cq} {rest:List Oper} {l:Fr} {H:World→Prop} {d:Nat} {ty:TypeId} {pos:String} {a7:Array Edge}
theorem F1 {c:Op} {j u:Nat} {a b t:Bool} (ak:Nat.blt d n=true) (e: (ops[j]?).bind (·.dst)=some u) (f:look l u=some (.bool b)) (g:b=t) (i:t= !a) (h:az P n ops Q rest ((d,undef)::l) H):az P n ops Q (⟨some d,c,ty,pos,a7,some (j,a)⟩::rest) l H:=ge ak e f (g.trans i) h
theorem F2 {a:Op} {c:Option Nat} {j u:Nat} {d b t:Bool} (e: (ops[j]?).bind (·.dst)=some u) (f:look l u=some (.bool b)) (g:b=t) (i:t=d) (h:az P n ops Q (⟨c,a,ty,pos,a7,none⟩::rest) l H):az P n ops Q (⟨c,a,ty,pos,a7,some (j,d)⟩::rest) l H:=cC e f (g.trans i) h
theorem F3 {c x y:Operand} {v:Value} {b t:Bool} (ak:Nat.blt d n=true) (a:ba l c=some (.bool b)) (e:b=t) (f:t=true) (g:ba l x=some v) (h:az P n ops Q rest ((d,v)::l) H):az P n ops Q (⟨some d,.pick c x y,ty,pos,a7,none⟩::rest) l H:=zt ak a (e.trans f) g h
theorem F4 {c x y:Operand} {v:Value} {b t:Bool} (ak:Nat.blt d n=true) (a:ba l c=some (.bool b)) (e:b=t) (f:t=false) (g:ba l y=some v) (h:az P n ops Q rest ((d,v)::l) H):az P n ops Q (⟨some d,.pick c x y,ty,pos,a7,none⟩::rest) l H:=kt ak a (e.trans f) g h
theorem bF {id:Nat} {os:List Oper} {b:World} {S:List Nat} {cs:List Chunk} (b_:List Nat) (a:Nat) (c:List (List (Nat × Bool × List Nat)))
 (h:gC prog n os.toArray (af b S cs) (λe=>jh prog n os Q a c (af b S cs) e (af b S cs)) (b_.map (λq=>os.getD q default)) l) (f:Ar n b_ a c os=true:=by kernel_rfl):dc prog n (.region id os.toArray true) Q l (af b S cs):=eF b_ a c (af b S cs) mixed f (λ_ d=>d.drew) (λ_ d=>d) h
theorem cJ {b:World} {S:List Nat} {cs cs':List Chunk} {ι:Type} {args:List Operand} {db:Array TypeId} {f:FuncId} {vs:List Value} {v:ι→Value} {l0:List Chunk} {ok:ι→Prop} {l':ι→List Chunk} (c: ∀w,a8 w l0→Calls P f vs.toArray w (aP v l0 l' ok w)) (h: ∀i,ok i→az P n ops Q rest ((d,v i)::l) (af b S (l' i++cs')))
 (e:cI l args=some vs:=by exact rfl) (ak:Nat.blt d n=true:=by exact rfl) (a:aA cs l0 cs':=by exact ae) (g:ad P f:=by exact inferInstance):az P n ops Q (⟨some d,.call ⟨.value (.func f),args.toArray,db⟩,ty,pos,a7,none⟩::rest) l (af b S cs):=a6 a ak g e (λw j=>c w (j.bo a)) h
end
theorem F5 {P:Program} {n:Nat} {os:List Oper} {Q:cq} {k:Nat} {a:List (List (Nat × Bool × List Nat))} {HBa:World→Prop} {l:Fr} {H:World→Prop} {s u:Nat × Bool × List Nat} {o c:Oper}
 (h:az P n os.toArray (q0 (λl' w'=>(s.2.1=true∨HBa w')∧ ∃HB:World→Prop,HB w'∧gC P n os.toArray HB (λb=>jh P n os Q k (k_ s.1 a) (λx=>(s.2.1=true∨HBa x)∧HB x) b (λx=>x=w')) (s.2.2.map (λq=>os.getD q default)) l')) [o] l H)
 (d:az P n os.toArray (q0 (λl' w'=>(u.2.1=true∨HBa w')∧ ∃HB:World→Prop,HB w'∧gC P n os.toArray HB (λb=>jh P n os Q k (k_ u.1 a) (λx=>(u.2.1=true∨HBa x)∧HB x) b (λx=>x=w')) (u.2.2.map (λq=>os.getD q default)) l')) [c] l H)
 (e:k9 a=[s,u]:=by exact rfl) (f:os.getD s.1 default=o:=by conv=>lhs;whnf) (g:os.getD u.1 default=c:=by conv=>lhs;whnf):jh P n os Q (k+1) a HBa l H:=sK [s,u] e (qI.2 ⟨f▸h,qI.2 ⟨g▸d,by simp⟩⟩)
theorem PR {P:Program} {n:Nat} {ops:Array Oper} {l:Fr} {d:Nat} {ty:TypeId} {pos:String} {a7:Array Edge} {x:Operand} {t sz:Nat} {z vs xs:List Value} {g o:Nat} {te:TypeId} {b a:World} {S:List Nat} {cs:List Chunk} (c:cD P t sz z) (ak:Nat.blt d n=true) (e:ba l x=some (.pointer (some ⟨g,o,none⟩))) (f:af b S cs a) (h:Has cs (aD g xs te)) (i: (xs.drop o).take sz=vs) (k:vs.length=sz):
 az P n ops (oE ((d,.agg vs.toArray)::l) (λx=>x=a)) [⟨some d,.load t x,ty,pos,a7,none⟩] l (λx=>x=a):=cx c ak e k (λq m j u p=>by subst m;exact f.k6 (sz:=sz) h i j u p) aG
theorem F6 {p:Prop} (h:p:=by
 first
 | ((with_reducible apply ig);exact rfl;exact rfl;exact aG)
 | ((with_reducible apply zk);exact rfl;exact rfl;exact aG)
 | ((with_reducible apply nA);exact rfl;exact rfl;exact aG)
 | ((with_reducible apply nk);exact inferInstance;exact rfl;exact rfl;exact aG)
 | ((with_reducible apply zm);exact inferInstance;exact rfl;exact rfl;exact fS;exact rfl;exact aG)
 | ((with_reducible apply zn);exact inferInstance;exact rfl;exact rfl;exact fS;exact rfl;exact rfl;exact aG)
 | ((with_reducible apply a_);exact inferInstance;exact rfl;exact rfl;intro b a;subst a;(first | apply af.eP bv | apply pV.eP bv);exact fS;exact rfl;exact aG)
 | ((with_reducible apply PR);exact inferInstance;exact rfl;exact rfl;assumption;exact fS;exact rfl;exact rfl)
 | ((with_reducible apply DN);exact rfl;exact rfl;exact rfl;exact aG)
 | ((with_reducible apply wG);exact rfl;exact rfl;exact rfl;exact aG)
 | ((with_reducible apply DI);exact rfl;exact rfl;exact rfl;exact aG)
 | ((with_reducible apply DJ);exact rfl;exact rfl;exact rfl;exact aG)
 | ((with_reducible apply DK);exact rfl;exact rfl;exact rfl;exact aG)
 | ((with_reducible apply DL);exact rfl;exact rfl;exact rfl;exact aG)
 | ((with_reducible apply DO);exact rfl;exact rfl;exact aG)
 | ((with_reducible apply hk);exact rfl;exact rfl;exact rfl;exact wrap64 aa aa;exact aG)
 | ((with_reducible apply gS);exact rfl;exact rfl;exact rfl;exact wrap64 aa aa;exact aG)
 | ((with_reducible apply DR);exact dM.u;exact rfl;exact rfl;exact aG)
 | ((with_reducible apply D3);exact dM.u;exact rfl;exact rfl;exact aG)
 | ((with_reducible apply D1);exact rfl;exact rfl;exact rfl;exact aG)
 | ((with_reducible apply DP);exact rfl;exact rfl;exact rfl;exact aG)
 | ((with_reducible apply DQ);exact rfl;exact rfl;exact rfl;exact aG)
 | ((with_reducible apply ks);exact inferInstance;exact rfl;exact rfl;exact rfl;exact aG)
 | ((with_reducible apply zr);exact inferInstance;exact rfl;exact rfl;exact rfl;exact aG)
 | ((with_reducible apply xj);exact dM.u;exact rfl;exact rfl;exact rfl;exact aG)
 | ((with_reducible apply FX);exact dM.u;exact rfl;exact rfl;exact rfl;exact aG)
 | ((with_reducible apply D4);exact rfl;exact rfl;exact rfl;exact aG)
 | ((with_reducible apply F3);exact rfl;exact rfl;exact p1;exact rfl;exact rfl;exact aG)
 | ((with_reducible apply F4);exact rfl;exact rfl;exact p1;exact rfl;exact rfl;exact aG)
 | ((with_reducible apply DS);exact inferInstance;exact rfl;exact rfl;exact aG)
 | ((with_reducible apply dn);exact rfl;exact rfl;exact dM.u;exact dM.u;exact wrap64 aa aa;exact aG)
 | ((with_reducible apply wN);exact rfl;exact rfl;exact rfl;exact aG)):p:=h
theorem PS {p:Prop} (h:p:=by
 first
 | ((with_reducible apply F1);exact rfl;exact rfl;exact rfl;exact p1;exact rfl;exact aG)
 | ((with_reducible apply D8);exact rfl;exact rfl;exact rfl;exact aG)
 | ((with_reducible apply F2);exact rfl;exact rfl;exact p1;exact rfl;exact F6)
 | exact F6):p:=h
theorem PT {P:Program} {n:Nat} {ops:Array Oper} {HB:World→Prop} {a:Fr→Prop} {l:Fr} {L rest:List Oper} {o' o:Oper} {d:Nat} {v:Value} (b:L=o'::rest) (c:o'=o) (ak:o.dst=some d)
 (h: ∀w,HB w→az P n ops (oE ((d,v)::l) (λx=>x=w)) [o] l (λx=>x=w)) (e:gC P n ops HB a rest ((d,v)::l)):gC P n ops HB a L l:=by subst b;subst c;exact aL ak h e
theorem PU {P:Program} {n:Nat} {ops:Array Oper} {HB:World→Prop} {a:Fr→Prop} {l:Fr} {L:List Oper} (b:L=[]) (h:a l):gC P n ops HB a L l:=by subst b;exact pW h
theorem PV {P:Program} {n:Nat} {os:List Oper} {Q:cq} {k:Nat} {a:List (List (Nat × Bool × List Nat))} {HBa:World→Prop} {l:Fr} {H:World→Prop} {s:Nat × Bool × List Nat} {o:Oper} (b:k9 a=[s]) (c:os.getD s.1 default=o)
 (h:az P n os.toArray (q0 (λl' w'=>(s.2.1=true∨HBa w')∧ ∃HB:World→Prop,HB w'∧gC P n os.toArray HB (λd=>jh P n os Q k (k_ s.1 a) (λx=>(s.2.1=true∨HBa x)∧HB x) d (λx=>x=w')) (s.2.2.map (λq=>os.getD q default)) l')) [o] l H):
 jh P n os Q (k+1) a HBa l H:=sK [s] b (qI.2 ⟨c▸h,by simp⟩)
theorem eQ {p q:Prop} (k:q) (h:eK q→p:=by
 intro k;first
 | ((with_reducible apply mG);exact k.o)
 | ((with_reducible apply ig);exact rfl;exact rfl;exact k.o)
 | ((with_reducible apply b3 (λ_=>True));(first | exact (λ_ _=> .inl rfl) | exact (λ_ h=> .inr h) | exact (λ_ h=> .inr ⟨.inr h,a1⟩));exact (λ_ _=>a1);exact k.o)
 | ((with_reducible apply sj);exact k.o)
 | ((with_reducible apply k2);exact k.o)
 | ((with_reducible apply ni);exact k.o)
 | ((with_reducible apply zk);exact rfl;exact rfl;exact k.o)
 | ((with_reducible apply PT);(conv=>lhs;whnf);(conv=>lhs;whnf);exact rfl;intro a b;exact PS;exact k.o)
 | ((with_reducible apply F1);exact rfl;exact rfl;exact rfl;exact p1;exact rfl;exact k.o)
 | ((with_reducible apply F2);exact rfl;exact rfl;exact p1;exact rfl;exact k.o)
 | ((with_reducible apply LQ);exact k.o)
 | ((with_reducible apply LP);exact k.o)
 | ((with_reducible apply nk);exact inferInstance;exact rfl;exact rfl;exact k.o)
 | ((with_reducible apply zh);exact k.o)
 | ((with_reducible apply LS);exact k.o)
 | ((with_reducible apply LV);exact rfl;exact rfl;exact k.o)
 | ((with_reducible apply zi);exact rfl;exact k.o)
 | ((with_reducible apply zm);exact inferInstance;exact rfl;exact rfl;exact fS;exact rfl;exact k.o)
 | ((with_reducible apply PU);exact rfl;exact k.o)
 | ((with_reducible apply wF);exact k.o)
 | ((with_reducible apply DN);exact rfl;exact rfl;exact rfl;exact k.o)
 | ((with_reducible apply nA);exact rfl;exact rfl;exact k.o)
 | ((with_reducible apply F3);exact rfl;exact rfl;exact p1;exact rfl;exact rfl;exact k.o)
 | ((with_reducible apply F4);exact rfl;exact rfl;exact p1;exact rfl;exact rfl;exact k.o)
 | ((with_reducible apply hk);exact rfl;exact rfl;exact rfl;exact wrap64 aa aa;exact k.o)
 | ((with_reducible apply gS);exact rfl;exact rfl;exact rfl;exact wrap64 aa aa;exact k.o)
 | ((with_reducible apply PV);exact rfl;(conv=>lhs;whnf);exact k.o)
 | ((with_reducible apply LR);exact k.o)
 | ((with_reducible apply e3);exact inferInstance;exact rfl;exact rfl;exact xp;exact rfl;exact F0;exact xo rfl;exact k.o)
 | ((with_reducible apply LT);exact k.o)
 | ((with_reducible apply sg);exact k.o)
 | ((with_reducible apply sf);exact k.o)
 | ((with_reducible apply si);exact k.o)
 | ((with_reducible apply LU);exact k.o)
 | ((with_reducible apply zn);exact inferInstance;exact rfl;exact rfl;exact fS;exact rfl;exact rfl;exact k.o)
 | ((with_reducible apply DU);exact inferInstance;exact rfl;exact rfl;exact xp;exact rfl;exact xo rfl;exact k.o)
 | ((with_reducible apply DI);exact rfl;exact rfl;exact rfl;exact k.o)
 | ((with_reducible apply xd);exact k.o)
 | ((with_reducible apply D1);exact rfl;exact rfl;exact rfl;exact k.o)
 | ((with_reducible apply DR);exact dM.u;exact rfl;exact rfl;exact k.o)
 | ((with_reducible apply fA);exact rfl;exact rfl;exact k.o)
 | ((with_reducible apply eE);exact rfl;exact rfl;exact k.o)
 | ((with_reducible apply L5);exact inferInstance;exact rfl;exact k.o)
 | ((with_reducible apply L6);exact rfl;exact rfl;exact k.o)
 | ((with_reducible apply ks);exact inferInstance;exact rfl;exact rfl;exact rfl;exact k.o)
 | ((with_reducible apply Ml);exact rfl;exact cy.eX inferInstance rfl fS rfl rfl;exact k.o)
 | ((with_reducible apply LW);exact rfl;exact rfl;exact rfl;exact k.o)
 | ((with_reducible apply D8);exact rfl;exact rfl;exact rfl;exact k.o)
 | ((with_reducible apply DL);exact rfl;exact rfl;exact rfl;exact k.o)
 | ((with_reducible apply zs);exact inferInstance;exact rfl;exact rfl;exact rfl;exact rfl;exact k.o)
 | ((with_reducible apply xj);exact dM.u;exact rfl;exact rfl;exact rfl;exact k.o)
 | ((with_reducible apply zr);exact inferInstance;exact rfl;exact rfl;exact rfl;exact k.o)
 | ((with_reducible apply DK);exact rfl;exact rfl;exact rfl;exact k.o)
 | ((with_reducible apply DO);exact rfl;exact rfl;exact k.o)
 | ((with_reducible apply wG);exact rfl;exact rfl;exact rfl;exact k.o)
 | ((with_reducible apply D4);exact rfl;exact rfl;exact rfl;exact k.o)
 | ((with_reducible apply DJ);exact rfl;exact rfl;exact rfl;exact k.o)
 | ((with_reducible apply D3);exact dM.u;exact rfl;exact rfl;exact k.o)
 | ((with_reducible apply L7);exact rfl;exact rfl;exact rfl;exact k.o)
 | ((with_reducible apply DS);exact inferInstance;exact rfl;exact rfl;exact k.o)
 | ((with_reducible apply wN);exact rfl;exact rfl;exact rfl;exact k.o)
 | ((with_reducible apply DP);exact rfl;exact rfl;exact rfl;exact k.o)
 | ((with_reducible apply DQ);exact rfl;exact rfl;exact rfl;exact k.o)
 | ((with_reducible apply FX);exact dM.u;exact rfl;exact rfl;exact rfl;exact k.o)
 | ((with_reducible apply dn);exact rfl;exact rfl;exact dM.u;exact dM.u;exact wrap64 aa aa;exact k.o)
 | ((with_reducible apply LX);exact rfl;exact rfl;exact rfl;exact rfl;exact k.o)
 | ((with_reducible apply DH);exact rfl;exact k.o)
 | (apply sj;exact k.o)
 | (apply DU;exact inferInstance;exact rfl;exact rfl;exact xp;exact rfl;exact xo rfl;exact k.o)
 | (apply e3;exact inferInstance;exact rfl;exact rfl;exact xp;exact rfl;exact F0;exact xo rfl;exact k.o)
 | (apply zm;exact inferInstance;exact rfl;exact rfl;exact fS;exact rfl;exact k.o)
 | (apply zn;exact inferInstance;exact rfl;exact rfl;exact fS;exact rfl;exact rfl;exact k.o)
 | (apply ig;exact rfl;exact rfl;exact k.o)
 | (apply zk;exact rfl;exact rfl;exact k.o)):p:=h ⟨k⟩
theorem ar {p q:Prop} (k:q) (h:eK q→p:=by intro k;(iterate 1 refine eQ ?_);exact k.o):p:=h ⟨k⟩
theorem aq {p q:Prop} (k:q) (h:eK q→p:=by intro k;(iterate 2 refine eQ ?_);exact k.o):p:=h ⟨k⟩
theorem ah {p q:Prop} (k:q) (h:eK q→p:=by intro k;(iterate 3 refine eQ ?_);exact k.o):p:=h ⟨k⟩
theorem aS {p q:Prop} (k:q) (h:eK q→p:=by intro k;(iterate 4 refine eQ ?_);exact k.o):p:=h ⟨k⟩
theorem ay {p q:Prop} (k:q) (h:eK q→p:=by intro k;(iterate 5 refine eQ ?_);exact k.o):p:=h ⟨k⟩
theorem al {p q:Prop} (k:q) (h:eK q→p:=by intro k;(iterate 6 refine eQ ?_);exact k.o):p:=h ⟨k⟩
theorem aC {p q:Prop} (k:q) (h:eK q→p:=by intro k;(iterate 7 refine eQ ?_);exact k.o):p:=h ⟨k⟩
theorem aK {p q:Prop} (k:q) (h:eK q→p:=by intro k;(iterate 8 refine eQ ?_);exact k.o):p:=h ⟨k⟩
theorem aJ {p q:Prop} (k:q) (h:eK q→p:=by intro k;(iterate 9 refine eQ ?_);exact k.o):p:=h ⟨k⟩
theorem aQ {p q:Prop} (k:q) (h:eK q→p:=by intro k;(iterate 10 refine eQ ?_);exact k.o):p:=h ⟨k⟩
theorem bp {p q:Prop} (k:q) (h:eK q→p:=by intro k;(iterate 11 refine eQ ?_);exact k.o):p:=h ⟨k⟩
theorem bx {p q:Prop} (k:q) (h:eK q→p:=by intro k;(iterate 12 refine eQ ?_);exact k.o):p:=h ⟨k⟩
theorem bH {p q:Prop} (k:q) (h:eK q→p:=by intro k;(iterate 13 refine eQ ?_);exact k.o):p:=h ⟨k⟩
theorem b7 {p q:Prop} (k:q) (h:eK q→p:=by intro k;(iterate 14 refine eQ ?_);exact k.o):p:=h ⟨k⟩
theorem cF {p q:Prop} (k:q) (h:eK q→p:=by intro k;(iterate 15 refine eQ ?_);exact k.o):p:=h ⟨k⟩
theorem dB {p q:Prop} (k:q) (h:eK q→p:=by intro k;(iterate 16 refine eQ ?_);exact k.o):p:=h ⟨k⟩
theorem ey {p q:Prop} (k:q) (h:eK q→p:=by intro k;(iterate 17 refine eQ ?_);exact k.o):p:=h ⟨k⟩
theorem eR {p q:Prop} (k:q) (h:eK q→p:=by intro k;(iterate 18 refine eQ ?_);exact k.o):p:=h ⟨k⟩
theorem eL {p q:Prop} (k:q) (h:eK q→p:=by intro k;(iterate 19 refine eQ ?_);exact k.o):p:=h ⟨k⟩
theorem hq {p q:Prop} (k:q) (h:eK q→p:=by intro k;(iterate 20 refine eQ ?_);exact k.o):p:=h ⟨k⟩
theorem hr {p q:Prop} (k:q) (h:eK q→p:=by intro k;(iterate 21 refine eQ ?_);exact k.o):p:=h ⟨k⟩
theorem kA {p q:Prop} (k:q) (h:eK q→p:=by intro k;(iterate 22 refine eQ ?_);exact k.o):p:=h ⟨k⟩
theorem oP {p q:Prop} (k:q) (h:eK q→p:=by intro k;(iterate 23 refine eQ ?_);exact k.o):p:=h ⟨k⟩
theorem jF {p q:Prop} (k:q) (h:eK q→p:=by intro k;(iterate 24 refine eQ ?_);exact k.o):p:=h ⟨k⟩
theorem sQ {p q:Prop} (k:q) (h:eK q→p:=by intro k;(iterate 25 refine eQ ?_);exact k.o):p:=h ⟨k⟩
theorem lV {p q:Prop} (k:q) (h:eK q→p:=by intro k;(iterate 26 refine eQ ?_);exact k.o):p:=h ⟨k⟩
theorem uW {p q:Prop} (k:q) (h:eK q→p:=by intro k;(iterate 27 refine eQ ?_);exact k.o):p:=h ⟨k⟩
theorem xq {p q:Prop} (k:q) (h:eK q→p:=by intro k;(iterate 28 refine eQ ?_);exact k.o):p:=h ⟨k⟩
theorem xr {p q:Prop} (k:q) (h:eK q→p:=by intro k;(iterate 29 refine eQ ?_);exact k.o):p:=h ⟨k⟩
theorem xt {p q:Prop} (k:q) (h:eK q→p:=by intro k;(iterate 30 refine eQ ?_);exact k.o):p:=h ⟨k⟩
theorem AB {p q:Prop} (k:q) (h:eK q→p:=by intro k;(iterate 31 refine eQ ?_);exact k.o):p:=h ⟨k⟩
theorem PW {p q:Prop} (k:q) (h:eK q→p:=by intro k;(iterate 32 refine eQ ?_);exact k.o):p:=h ⟨k⟩
theorem PX {p q:Prop} (k:q) (h:eK q→p:=by intro k;(iterate 40 refine eQ ?_);exact k.o):p:=h ⟨k⟩
theorem PY {p q:Prop} (k:q) (h:eK q→p:=by intro k;(iterate 42 refine eQ ?_);exact k.o):p:=h ⟨k⟩
theorem PZ {p q:Prop} (k:q) (h:eK q→p:=by intro k;(iterate 51 refine eQ ?_);exact k.o):p:=h ⟨k⟩
theorem P0 {p q:Prop} (k:q) (h:eK q→p:=by intro k;(iterate 64 refine eQ ?_);exact k.o):p:=h ⟨k⟩
theorem aV {P:Program} {f:FuncId} {fn:Func} {c:Code} {vs:List Value} {w:World} {R:Ending→World→Prop} {n:Nat} (a:P.funcs[f]? = some fn) (b:fn.ntmps=n) (h:dc P n c (Fin P n fn R) (oB vs 0) (af w [] [])) (d:fn.body=some c:=by exact rfl) (e:Nat.ble vs.length n=true:=by exact rfl):Calls P f vs.toArray w R:=PO a b d e h
theorem bI {P:Program} {f:FuncId} {fn:Func} {c:Code} {vs:List Value} {w:World} {R:Ending→World→Prop} {n:Nat} {cs:List Chunk} (a:P.funcs[f]? = some fn) (b:fn.ntmps=n) (d:a8 w cs) (h:dc P n c (Fin P n fn R) (oB vs 0) (af w (aB cs) cs)) (e:fn.body=some c:=by exact rfl) (g:Nat.ble vs.length n=true:=by exact rfl):Calls P f vs.toArray w R:=PP a b d e g h
end
end Go.Proofs.YtlgnfdodnhokjaaGreatDoor.Mq
namespace Go.Proofs.YtlgnfdodnhokjaaGreatDoor.Mq
abbrev kB (s u:List UInt8) (k:Nat):Prop:=s.take k<:+ u
theorem F7 {s u:List UInt8} {k x:Nat} (h:kB s u k) (a:kB s u x) (b:x≤k):kB s (s.take k) x:=
 List.suffix_of_suffix_length_le a h (by simp only[dl];omega)
theorem F8 {s u:List UInt8} {c:UInt8} {k:Nat} (d:k<s.length):kB s (u++[c]) (k+1)↔kB s u k∧s[k]? = some c:=by
 have e:s.take (k+1)=s.take k++[s[k]]:=by rw[fR,bE d];rfl
 rw[bE d];show s.take (k+1)<:+ u++[c]↔_
 rw[e];constructor
 rintro⟨z,b⟩;rw[←ea] at b
 obtain⟨f,a⟩:=List.append_inj' b rfl;exact⟨⟨z,f⟩,by injection a with g;rw[g]⟩;rintro⟨⟨z,b⟩,a⟩;injection a with a
 exact⟨z,by rw[←ea,b,a]⟩
structure lg (s:List UInt8) (j:Nat) (v:Int):Prop where
 lo: -1≤v
 hi:v<j
 lW:0≤v→kB s (s.take j) v.toNat
 max: ∀x:Nat,x<j→kB s (s.take j) x→(x:Int)≤v
theorem F9 (s:List UInt8):lg s 0 (-1):=⟨aZ,aZ,λh=>by omega,λx h=>by omega⟩
structure nD (s u:List UInt8) (c:UInt8) (L:Nat) (k:Int):Prop where
 lo: -1≤k
 hi:k<L
 lW:0≤k→kB s u k.toNat
 max: ∀x:Nat,x<L→kB s u x→s[x]? = some c→(x:Int)≤k
structure hN (s u:List UInt8) (L:Nat) (k:Int):Prop where
 lo:0≤k
 hi:k<L
 lW:kB s u k.toNat
 max: ∀x:Nat,x<L→kB s u x→(x:Int)≤k
theorem nD.next {s u:List UInt8} {c:UInt8} {L:Nat} {k v:Int} (h:nD s u c L k) (b:0≤k) (g:s[k.toNat]? ≠some c) (a:lg s k.toNat v):nD s u c L v:=by
 have l:=h.hi
 have m:=a.hi
 refine⟨a.lo,aa,λi=>(a.lW i).trans (h.lW b),λx j d f=>?_⟩;have n:=h.max x j d f
 have o:x≠k.toNat:=λe=>g (e▸f)
 exact a.max x aa (F7 (h.lW b) d aa)
theorem nD.step {s u:List UInt8} {c:UInt8} {L:Nat} {k:Int} (h:nD s u c L k) (f:L≤s.length) (b:0≤k→s[k.toNat]? = some c):hN s (u++[c]) (L+1) (k+1):=by
 have g:=h.hi
 have i:=h.lo
 refine⟨aa,aa,?_,λx j d=>?_⟩;rcases (by omega:k<0∨0≤k) with a | a
 rw[show (k+1).toNat=0 by omega];exact⟨u++[c],by simp⟩;rw[show (k+1).toNat=k.toNat+1 by omega];exact (F8 aa).2 ⟨h.lW a,b a⟩;cases x with
 | zero=>omega
 | succ y=>
  obtain⟨a,e⟩:=(F8 aa).1 d;have:=h.max y aa a e
  omega
theorem hN.AC {s u:List UInt8} {L:Nat} {k:Int} (h:hN s u L k) (c:UInt8):nD s u c L k:=⟨by have:=h.lo;omega,h.hi,λ_=>h.lW,λx a b _=>h.max x a b⟩
theorem lg.AC {s:List UInt8} {j:Nat} {k:Int} (h:lg s j k) (c:UInt8):nD s (s.take j) c j k:=⟨h.lo,h.hi,h.lW,λx a b _=>h.max x a b⟩
theorem hN.F_ {s:List UInt8} {j:Nat} {c:UInt8} {k:Int} (a:s[j]? = some c) (h:hN s (s.take j++[c]) (j+1) k):lg s (j+1) k:=by
 have e:s.take (j+1)=s.take j++[c]:=by rw[fR,a];rfl
 exact⟨by have:=h.lo;omega,h.hi,λ_=>e▸h.lW,λx b d=>h.max x b (e▸d)⟩
theorem hN.shrink {s u:List UInt8} {L:Nat} {k:Int} (h:hN s u (L+1) k) (a:k<L):hN s u L k:=⟨h.lo,a,h.lW,λx b=>h.max x aa⟩
theorem hN.none {s u:List UInt8} {k:Int} (h:hN s u (s.length+1) k) (b:k<s.length): ¬s<:+ u:=λa=>by
 have:=h.max s.length aa (by rw[kB,ow];exact a)
 omega
theorem hN.some {s u:List UInt8} {k:Int} (h:hN s u (s.length+1) k) (a:k=s.length):s<:+ u:=by
 have:=h.lW
 rw[a,kB,fV,ow] at this
 exact this
theorem hN.again {s u:List UInt8} {v:Int} (b:s<:+ u) (e:1≤s.length) (a:lg s s.length v):hN s u s.length v:=by
 have f:=a.max 0 aa ⟨_,by rw[List.take_zero,eu]⟩
 refine⟨aa,a.hi,?_,λx c d=>a.max x c ?_⟩;have:=a.lW aa
 rw[ow] at this
 exact this.trans b;exact F7 (k:=s.length) (by rw[kB,ow];exact b) d aa
theorem P1 (s:List UInt8) (b:1≤s.length):hN s [] s.length 0:=by
 refine⟨aZ,aa,⟨[],rfl⟩,λx c a=>?_⟩;have:=List.length_eq_zero_iff.2 (List.suffix_nil.1 a)
 rw[dl] at this
 omega
def occs (s t:List UInt8):Nat→List Int
 | 0=>[]
 | n+1=>occs s t n++if s<:+ t.take (n+1) then [((n+1 :Nat):Int) - s.length] else []
theorem sR {s t:List UInt8}: ∀{n:Nat} {a:Int},a∈occs s t n→n≤t.length→0≤a∧a+s.length≤n∧s<+:t.drop a.toNat
 | 0,a,h,_=>by cases h
 | n+1,a,h,j=>by
  rw[occs] at h
  rcases cZ.1 h with h | h
  obtain⟨d,b,f⟩:=sR h aa;exact⟨d,aa,f⟩;split at h
  rename_i g;obtain rfl:=eb.1 h;obtain⟨z,c⟩:=g;have i:=aU List.length c
  rw[b6,dl] at i
  refine⟨aa,aa,?_⟩;have e: (((n+1 :Nat):Int) - s.length).toNat=z.length:=by omega
  rw[e];refine⟨t.drop (n+1),?_⟩;have b:t=z++(s++t.drop (n+1)):=by rw[←ea,c,iF]
  conv=>rhs;rw[b]
  rw[List.drop_left];cases h
theorem Ga {s t:List UInt8} {a:Nat} (h:s<+:t.drop a) (c:1≤s.length): ∀{n:Nat},a+s.length≤n→(a:Int)∈occs s t n
 | 0,d=>by omega
 | n+1,d=>by
  rw[occs];rcases ej n (a+s.length) with b | b
  refine cZ.2 (.inr ?_);have e:n+1=a+s.length:=by omega
  have f:s<:+ t.take (n+1):=by
   obtain⟨z,g⟩:=h;refine⟨t.take a,?_⟩;rw[e,List.take_add,←g,List.take_left]
  rw[aw f,e];exact eb.2 aa;exact cZ.2 (.inl (Ga h c b))
theorem AD {s t:List UInt8}: ∀n:Nat,(occs s t n).Pairwise (· < ·)∧ ∀a∈occs s t n,a+s.length≤n
 | 0=>⟨List.Pairwise.nil,λ_ h=>by cases h⟩
 | n+1=>by
  have d:=AD (s:=s) (t:=t) n
  rw[occs];split
  refine⟨List.pairwise_append.2 ⟨d.1,List.pairwise_singleton _ _,λa c b e=>?_⟩,λa c=>?_⟩;have:=d.2 a c
  rw[eb] at e
  omega
  rcases cZ.1 c with c | c
  have:=d.2 a c
  omega
  rw[eb] at c
  omega
  rw[eu];exact⟨d.1,λa c=>by have:=d.2 a c;omega⟩
theorem P2 {s t:List UInt8} {n m:Nat} (h:n≤m): ∃z,occs s t m=occs s t n++z:=by
 induction h with
 | refl=>exact⟨[],by simp⟩
 | @step m _ a=>obtain⟨z,b⟩:=a;exact⟨z++_,by rw[occs,b,ea]⟩
theorem uX (s t:List UInt8): ∀n,(occs s t n).length≤n
 | 0=>bW _
 | n+1=>by
  have:=uX s t n
  rw[occs,b6];split <;> simp <;> omega
theorem P3 {s t:List UInt8} {n:Nat} {a b:Int} (f:occs s t n=[]) (g:s<:+ t.take (n+1)) (h:a=((n+1 :Nat):Int) - s.length) (j:n<t.length) (c:b∈occs s t t.length):a≤b:=by
 obtain⟨z,i⟩:=P2 (s:=s) (t:=t) (show n+1≤t.length by omega);have d:=(AD (s:=s) (t:=t) t.length).1
 rw[i,occs,f,aw g,←h] at d c
 rcases e1.1 c with e | e
 omega
 have:=(List.pairwise_cons.1 d).1 b e
 omega
end Go.Proofs.YtlgnfdodnhokjaaGreatDoor.Mq
