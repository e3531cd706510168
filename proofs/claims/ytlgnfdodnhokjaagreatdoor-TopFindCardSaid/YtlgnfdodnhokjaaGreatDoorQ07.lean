/- part 7 of the proof -/
import Derived.Test.YtlgnfdodnhokjaaGreatDoorQ06
import Derived.Laws.BytesString
import Derived.Laws.Externs
import Derived.Laws.Shifts
import Derived.Lib.Bytealg
namespace Go.Proofs.YtlgnfdodnhokjaaGreatDoor.Mq
open Go Go.RowKit
def pV (cs:List Chunk) (w:World):Prop:= ∀c∈cs,c.pred w
theorem af.aF {b:World} {S:List Nat} {cs:List Chunk} {w:World} (h:af b S cs w):pV cs w:=h.all
theorem pV.eP {cs:List Chunk} {w:World} (h:pV cs w) {g:Nat} {xs:List Value} {t:TypeId} (a:Has cs (aD g xs t)) {o:Nat} {v:Value} (b:xs[o]? = some v):
 w.cell? ⟨g,o,none⟩=some v:=by
 have c:w.heap[g]? = some (.cells xs.toArray t (0,0)):=h _ a.mem
 rw[cell_of_row w g o xs.toArray t (0,0) c];simpa using b
def gC (P:Program) (n:Nat) (ops:Array Oper) (HB:World→Prop) (a:Fr→Prop):List Oper→Fr→Prop
 | [],l=>a l
 | o::rest,l=> ∃d v,o.dst=some d∧(∀w,HB w→az P n ops (oE ((d,v)::l) (λx=>x=w)) [o] l (λx=>x=w))∧gC P n ops HB a rest ((d,v)::l)
theorem pW {P:Program} {n:Nat} {ops:Array Oper} {HB:World→Prop} {a:Fr→Prop} {l:Fr} (h:a l):gC P n ops HB a [] l:=h
theorem aL {P:Program} {n:Nat} {ops:Array Oper} {HB:World→Prop} {a:Fr→Prop} {l:Fr} {o:Oper} {rest:List Oper} {d:Nat} {v:Value} (ak:o.dst=some d)
 (h: ∀w,HB w→az P n ops (oE ((d,v)::l) (λx=>x=w)) [o] l (λx=>x=w)) (b:gC P n ops HB a rest ((d,v)::l)):gC P n ops HB a (o::rest) l:=⟨d,v,ak,h,b⟩
theorem ny {P:Program} {n:Nat} {ops:Array Oper} {HB:World→Prop} {a:Fr→Prop} {l:Fr} {os:List Oper} {c:Bool} (t:Nat) (e:look l t=some (.bool c)) (b:c=true→gC P n ops HB a os l) (d:c=false→gC P n ops HB a os l):gC P n ops HB a os l:=by
 cases c
 exact d rfl;exact b rfl
theorem FL {P:Program} {n:Nat} {ops:Array Oper} {HB:World→Prop} {a b:Fr→Prop} (c: ∀l,a l→b l): ∀(os:List Oper) (l:Fr),gC P n ops HB a os l→gC P n ops HB b os l
 | [],_,h=>c _ h
 | _::os,_,⟨d,v,ak,h,e⟩=>⟨d,v,ak,h,FL c os _ e⟩
def eY:List (Nat × Bool × List Nat)→List Nat
 | []=>[]
 | s::r=>s.1::(s.2.2++eY r)
def ra (i:Nat):List (Nat × Bool × List Nat)→Bool
 | s::_=>Nat.beq s.1 i
 | []=>false
def k9:List (List (Nat × Bool × List Nat))→List (Nat × Bool × List Nat)
 | []=>[]
 | []::r=>k9 r
 | (s::_)::r=>match r.any (ra s.1) with
  | true=>k9 r
  | false=>s::k9 r
def k_ (i:Nat):List (List (Nat × Bool × List Nat))→List (List (Nat × Bool × List Nat))
 | []=>[]
 | []::r=>k_ i r
 | (s::p)::r=>match Nat.beq s.1 i with
  | true=>p::k_ i r
  | false=>k_ i r
def jh (P:Program) (n:Nat) (os:List Oper) (Q:cq):Nat→List (List (Nat × Bool × List Nat))→(World→Prop)→Fr→(World→Prop)→Prop
 | 0,_,_,l,H=>dS Q .normal l H
 | k+1,a,HBa,l,H=> ∀s∈k9 a,az P n os.toArray (q0 (λl' w'=>(s.2.1=true∨HBa w')∧ ∃HB:World→Prop,HB w'∧gC P n os.toArray HB (λb=>jh P n os Q k (k_ s.1 a) (λx=>(s.2.1=true∨HBa x)∧HB x) b (λx=>x=w')) (s.2.2.map (λq=>os.getD q default)) l')) [os.getD s.1 default] l H
theorem FM {P:Program} {n:Nat} {os:List Oper} {Q:cq}: ∀(k:Nat) {b:List (List (Nat × Bool × List Nat))} {HBa:World→Prop} {l:Fr} {H H':World→Prop},jh P n os Q k b HBa l H→(∀w,H' w→H w)→jh P n os Q k b HBa l H'
 | 0,_,_,_,_,_,h,a=>λw c=>h w (a w c)
 | _+1,_,_,_,_,_,h,a=>λs d=>gR (h s d) (Sub.refl _) a
theorem xd {P:Program} {n:Nat} {os:List Oper} {Q:cq} {a:List (List (Nat × Bool × List Nat))} {HBa:World→Prop} {l:Fr} {H:World→Prop} (h:dS Q .normal l H):jh P n os Q 0 a HBa l H:=h
theorem sK {P:Program} {n:Nat} {os:List Oper} {Q:cq} {k:Nat} {a:List (List (Nat × Bool × List Nat))} {HBa:World→Prop} {l:Fr} {H:World→Prop} (c:List (Nat × Bool × List Nat)) (b:k9 a=c)
 (h: ∀s∈c,az P n os.toArray (q0 (λl' w'=>(s.2.1=true∨HBa w')∧ ∃HB:World→Prop,HB w'∧gC P n os.toArray HB (λd=>jh P n os Q k (k_ s.1 a) (λx=>(s.2.1=true∨HBa x)∧HB x) d (λx=>x=w')) (s.2.2.map (λq=>os.getD q default)) l')) [os.getD s.1 default] l H):
 jh P n os Q (k+1) a HBa l H:=by subst b;exact h
theorem b3 {P:Program} {n:Nat} {os:List Oper} {Q:cq} {HBa:World→Prop} {l:Fr} {H:World→Prop} {s:Nat × Bool × List Nat} {k:Nat} {c:List (List (Nat × Bool × List Nat))} (HB:World→Prop)
 (d: ∀w,H w→(s.2.1=true∨HBa w)) (f: ∀w,H w→HB w) (h:gC P n os.toArray HB (λa=>jh P n os Q k (k_ s.1 c) (λx=>(s.2.1=true∨HBa x)∧HB x) a H) (s.2.2.map (λq=>os.getD q default)) l):
 az P n os.toArray (q0 (λl' w'=>(s.2.1=true∨HBa w')∧ ∃HB:World→Prop,HB w'∧gC P n os.toArray HB (λa=>jh P n os Q k (k_ s.1 c) (λx=>(s.2.1=true∨HBa x)∧HB x) a (λx=>x=w')) (s.2.2.map (λq=>os.getD q default)) l')) [] l H:=
 sj λw b=>⟨d w b,HB,f w b,FL (λ_ h=>FM k h (λ_ e=>e▸b)) _ _ h⟩
def ky (a:List Nat) (j i:Nat):Bool:=(a.takeWhile (λx=> !Nat.beq x i)).any (Nat.beq j)
def Aq (os:List Oper) (i j:Nat):Bool:=(uG os i i).any (Nat.beq j)
def FN (n:Nat) (os:List Oper) (i:Nat) (o:Oper):Bool:=
 (match o.dst with
  | some d=>Nat.blt d n && (match writer os d with | some j=>Nat.beq j i | none=>false)
  | none=>true) &&
 (o.looksAt os.toArray).all (zu os i o) &&
 (o.after.all λe=> !Region.binds .any e || Nat.blt e.on i) &&
 (match o.op with | .select .. =>false | _=>true)
def xe (os:List Oper) (a:List Nat) (i:Nat):Bool:=match os[i]? with
 | some o=>(o.looksAt os.toArray).all (λt=>match writer os t with
  | none=>true
  | some j=>match Nat.blt j i with
   | true=>ky a j i
   | false=> !ky a j i)
 | none=>false
def sL (os:List Oper) (b_:List Nat):Nat→List (Nat × Bool × List Nat)→List (List (Nat × Bool × List Nat))→Bool
 | 0,pre,_=>(List.range os.length).all λi=>(b_++eY pre).any (Nat.beq i)
 | k+1,pre,a=>
  (match k9 a with | []=>false | _=>true) && ((List.range os.length).all λi=>(b_++eY pre).any (Nat.beq i) || a.any (ra i) || (List.range os.length).any (λm=> !(b_++eY pre).any (Nat.beq m) && Aq os i m)) &&
  (k9 a).all λs=>uQ (b_++eY (pre++[s])) && (s.1::s.2.2).all (xe os (b_++eY (pre++[s]))) &&
   (!s.2.1 || (b_++eY pre).all (λq=>pre.any (λr=>Nat.beq r.1 q) || Aq os s.1 q)) && sL os b_ k (pre++[s]) (k_ s.1 a)
def Ar (n:Nat) (b_:List Nat) (k:Nat) (a:List (List (Nat × Bool × List Nat))) (os:List Oper):Bool:=
 ((List.range os.length).all λi=>match os[i]? with
  | some o=>FN n os i o
  | none=>true) &&
 uQ b_ && b_.all (xe os b_) && sL os b_ k [] a
theorem any_beq {l:List Nat} {j:Nat}:l.any (Nat.beq j)=true↔j∈l:=by
 rw[List.any_eq_true];constructor
 rintro⟨x,a,b⟩;rw[gd b];exact a
 intro h;exact⟨j,h,by simp⟩
theorem FO {a:List Nat} {j i:Nat} (h:ky a j i=true):j∈a:=by
 have:=any_beq.1 h
 exact List.Sublist.mem this (List.takeWhile_sublist _)
theorem As {a:List Nat} {j i:Nat} (x:List Nat) (h:i∈a):ky (a++x) j i=ky a j i:=by
 unfold ky;congr 1
 induction a with
 | nil=>cases h
 | cons y a b=>
  simp only[my,List.takeWhile_cons];cases c:Nat.beq y i with
  | true=>simp
  | false=>
   have:i∈a:=by
    rcases e1.1 h with rfl | h
    simp at c
    exact h
   simp[b this]
theorem At {a:List Nat} {j i:Nat} (x:List Nat) (h:i∉a):ky (a++i::x) j i=true↔j∈a:=by
 unfold ky;rw[any_beq];have: (a++i::x).takeWhile (λx=> !Nat.beq x i)=a:=by
  induction a with
  | nil=>simp
  | cons y a b=>
   have c:Nat.beq y i=false:=by
    cases d:Nat.beq y i with
    | false=>rfl
    | true=>exact absurd (gd d) (λe=>h (e▸List.mem_cons_self))
   simp only[my,List.takeWhile_cons,c,Bool.not_false,if_true];rw[b (λf=>h (ur _ f))]
 rw[this]
theorem xf: ∀(l:List Nat),uQ l=true→l.Nodup
 | [],_=>List.nodup_nil
 | x::l,h=>by
  simp only[uQ,d4,pz,List.any_eq_false] at h
  exact List.nodup_cons.2 ⟨λa=>h.1 x a av,xf l h.2⟩
theorem FP (x y:List (Nat × Bool × List Nat)):eY (x++y)=eY x++eY y:=by
 induction x with
 | nil=>rfl
 | cons s x a=>simp[eY,a]
theorem FQ {os:List Oper} {D:Nat→Bool} {i j:Nat} (a: ∀(j:Nat) (o:Oper),os[j]? = some o→D j=true→ ∀e∈o.after,Region.binds .any e=true→D e.on=true)
 (hi: ∀(o:Oper),os[i]? = some o→ ∀e∈o.after,Region.binds .any e=true→D e.on=true) (h:Aq os i j=true):D j=true:=
 Mm a hi _ j (any_beq.1 h)
def uR (os:List Oper) (a0:Act) (a:List Nat) (b:Act):Prop:= ∀t,(∀i,writer os t=some i→i∉a)→b.tmps[t]? = a0.tmps[t]?
def sM (P:Program) (n:Nat) (os:List Oper) (a0:Act) (D:Nat→Bool) (HBa:World→Prop) (a:List Nat) (b:Act):Prop:=
 ∀q∈a,D q=false→ ∃(o:Oper) (f:Fr) (c:Act) (d:Nat) (v:Value),os[q]? = some o∧o.dst=some d∧hB n f c∧b.tmps[d]? = some v∧
  (∀w,HBa w→az P n os.toArray (oE ((d,v)::f) (λx=>x=w)) [o] f (λx=>x=w))∧
  ∀t∈o.looksAt os.toArray,c.tmps[t]? = (match writer os t with
   | some i=>if ky a i q=true then b.tmps[t]? else a0.tmps[t]?
   | none=>a0.tmps[t]?)
theorem FR {P:Program} {n:Nat} {os:List Oper} {a0:Act} {D:Nat→Bool} {HBa HB:World→Prop} {K:Fr→Prop} (A: ∀(i:Nat) (o:Oper) (d:Nat),os[i]? = some o→o.dst=some d→d<n∧writer os d=some i) (U: ∀w,HBa w→HB w):
 ∀(c a:List Nat) (b:Act) (f:Fr),(a++c).Nodup→(∀q∈c,q<os.length)→hB n f b→uR os a0 a b→sM P n os a0 D HBa a b→gC P n os.toArray HB K (c.map (λq=>os.getD q default)) f→
 ∃m B,hB n B m∧K B∧uR os a0 (a++c) m∧sM P n os a0 D HBa (a++c) m∧ ∀t,(∀i,writer os t=some i→i∉c)→m.tmps[t]? = b.tmps[t]? :=by
 intro c;induction c with
 | nil=>intro a b f _ _ l r s F;exact⟨b,f,l,F,by simpa using r,by simpa using s,λ_ _=>rfl⟩
 | cons q c V=>
  intro a b f G L l r s F;obtain⟨d,v,ak,W,X⟩:=F;have Y:=L q av
  have M:os[q]? = some (os.getD q default):=by simp[List.getD,bE Y]
  obtain⟨Z,H⟩:=A q _ d M ak;have x:q∉a:=λhm=>by
   rw[fW] at G
   exact G.2.2 q hm q av rfl
  let k:Act:=b.put (some d) v
  have p: ∀t,t≠d→k.tmps[t]? = b.tmps[t]? :=λt g=>by
   show (b.tmps.setIfInBounds d v)[t]? = _
   rw[ul (λe=>g e.symm)]
  have N:k.tmps[d]? = some v:=by
   show (b.tmps.setIfInBounds d v)[d]? = _
   simp[l.size,Z]
  have I: ∀t i,writer os t=some i→i≠q→t≠d:=λt i O s e=>by
   subst e;rw[H] at O;exact s (oA O).symm
  have Za:hB n ((d,v)::f) k:=by
   refine⟨by simp[k,Act.put,l.size],by simpa [k,Act.put] using l.pC,λt u y=>?_⟩;simp only[look] at y
   cases C:Nat.beq d t with
   | true=>
    rw[C] at y
    have Zb:=gd C
    subst Zb;rw[N];exact y
   | false=>
    rw[C] at y
    rw[p t (λe=>ux C e.symm)];exact l.val t u y
  have Zc:uR os a0 (a++[q]) k:=by
   intro t g;have Zd:t≠d:=λe=>by subst e;exact g q H av
   rw[p t Zd];exact r t λi hi hm=>g i hi (by simp[hm])
  have Ze:sM P n os a0 D HBa (a++[q]) k:=by
   intro h J Zf;rcases cZ.1 J with hm | hm
   obtain⟨o,Zg,Zh,E,v0,Q,R,Zi,Zj,Zk,Zl⟩:=s h hm Zf;have Zm:h≠q:=λe=>x (e▸hm)
   refine⟨o,Zg,Zh,E,v0,Q,R,Zi,?_,Zk,λt g=>?_⟩;rw[p E (I E h (A h o E Q R).2 Zm)];exact Zj
   rw[Zl t g];cases z:writer os t with
   | none=>rfl
   | some i=>
    simp only;rw[As _ hm];by_cases j:ky a i h=true
    rw[aw j,aw j,p t (I t i z (λe=>x (e▸FO j)))];rw[ag j,ag j]
   obtain rfl:h=q:=by simpa using hm
   refine⟨_,f,b,d,v,M,ak,l,N,λw A=>W w (U w A),λt g=>?_⟩;cases z:writer os t with
   | none=>exact r t (by simp[z])
   | some i=>
    simp only;by_cases j:ky (a++[h]) i h=true
    have hm:=(At [] x).1 j
    rw[aw j,p t (I t i z (λe=>x (e▸hm)))];rw[ag j];refine r t λZo S hm=>j ((At [] x).2 ?_)
    rw[z] at S
    rw[oA S];exact hm
  have T:a++[q]++c=a++q::c:=by simp
  obtain⟨m,B,hl,fg,qZ,uF,Zn⟩:=V (a++[q]) k ((d,v)::f) (by rw[T];exact G) (λh J=>L h (by simp[J])) Za Zc Ze X;rw[T] at qZ uF
  refine⟨m,B,hl,fg,qZ,uF,λt g=>?_⟩;rw[Zn t (λi hi hm=>g i hi (by simp[hm]))];exact p t (λe=>by subst e;exact g q H av)
theorem PJ (b:List (List (Nat × Bool × List Nat))): ∀{i:Nat},b.any (ra i)=true→ ∃s∈k9 b,s.1=i:=by
 induction b with
 | nil=>intro i h;simp at h
 | cons p r a=>
  intro i h;cases p with
  | nil=>
   have d:r.any (ra i)=true:=by simpa [ra] using h
   exact a d
  | cons s p=>
   simp only[List.any_cons,ra,mx] at h
   unfold k9;cases c:r.any (ra s.1) with
   | true=>
    rcases h with h | h
    rw[gd h] at c;exact a c
    exact a h
   | false=>
    rcases h with h | h
    exact⟨s,by simp,gd h⟩;obtain⟨e,f,g⟩:=a h;exact⟨e,by simp[f],g⟩
def pX (os:List Oper) (a:List Nat) (i:Nat):Prop:= ∃o,os[i]? = some o∧ ∀t∈o.looksAt os.toArray,∀j,writer os t=some j→(j<i→ky a j i=true)∧(¬j<i→ky a j i=false)
theorem Au {os:List Oper} {d:List Nat} {i:Nat} (h:xe os d i=true):pX os d i:=by
 unfold xe at h
 cases b:os[i]? with
 | none=>rw[b] at h;cases h
 | some o=>
  rw[b] at h
  refine⟨o,b,λt e j f=>?_⟩;have a:=i_.1 h t e
  rw[f] at a
  simp only at a
  refine⟨λc=>?_,λc=>?_⟩;rw[show Nat.blt j i=true from Nat.ble_eq_true_of_le c] at a;exact a
  have:Nat.blt j i=false:=by
   cases g:Nat.blt j i with
   | false=>rfl
   | true=>exact absurd (dV g) c
  rw[this] at a
  simpa using a
theorem pX.hK {os:List Oper} {a:List Nat} {i:Nat} (h:pX os a i) (hi:i∈a) (x:List Nat):pX os (a++x) i:=by
 obtain⟨o,b,h⟩:=h;exact⟨o,b,λt c j d=>by rw[As x hi];exact h t c j d⟩
theorem eF {P:Program} {n:Nat} {Q:cq} {l:Fr} {H:World→Prop} {id:Nat} {os:List Oper} (b_:List Nat) (ZJ:Nat) (ZK:List (List (Nat × Bool × List Nat))) (HB:World→Prop) (Zd:P.follows .mixedOrders=true) (ZL:Ar n b_ ZJ ZK os=true)
 (Zaa: ∀w,H w→H w.drew) (Zbc: ∀w,H w→HB w)
 (h:gC P n os.toArray HB (λZp=>jh P n os Q ZJ ZK HB Zp H) (b_.map (λq=>os.getD q default)) l):dc P n (.region id os.toArray true) Q l H:=by
 intro w Zy a ZM;unfold Ar at ZL
 simp only[d4] at ZL
 obtain⟨⟨⟨Zbd,Zbe⟩,Zbf⟩,Zbg⟩:=ZL;have ZN: ∀(i:Nat) (o:Oper),os[i]? = some o→(∀d,o.dst=some d→d<n∧writer os d=some i)∧(∀t∈o.looksAt os.toArray,zu os i o t=true)∧
  (∀e∈o.after,Region.binds .any e=true→e.on<i)∧(∀cs b,o.op≠ .select cs b):=by
  intro i o G;have ZO:=(cK.1 G).1
  have:=i_.1 Zbd i (by simpa using ZO)
  rw[G] at this
  unfold FN at this
  simp only[d4] at this
  obtain⟨⟨⟨F,Z⟩,Zbh⟩,Zab⟩:=this;refine⟨λd ak=>?_,λt p=>i_.1 Z t p,λe N I=>?_,λcs b A=>by rw[A] at Zab;cases Zab⟩;rw[ak] at F
  simp only[d4] at F
  refine⟨dV F.1,?_⟩;cases Zz:writer os d with
  | none=>rw[Zz] at F;cases F.2
  | some j=>rw[Zz] at F;rw[gd F.2]
  have:=Array.all_eq_true_iff_forall_mem.1 Zbh e N
  simp only[mx,pz,I] at this
  rcases this with this | this
  cases this
  exact dV this
 have Zq: ∀(i:Nat) (o:Oper) (d:Nat),os[i]? = some o→o.dst=some d→d<n∧writer os d=some i:=λi o d G ak=>(ZN i o G).1 d ak
 have ZP: ∀t j,writer os t=some j→ ∃o,os[j]? = some o∧o.dst=some t:=by
  intro t j Zq;obtain⟨x,E,ai⟩:=Mb Zq;refine⟨x,E,?_⟩;cases ak:x.dst with
  | none=>rw[ak] at ai;cases ai
  | some d=>rw[ak] at ai;rw[gd ai]
 have Zac: ∀i∈b_,pX os b_ i:=λi hi=>Au (i_.1 Zbf i hi)
 have Zbi: ∀q∈b_,q<os.length:=λq L=>let ⟨_,G,_⟩:=Zac q L;(cK.1 G).1
 have Zbj:sM P n os a (λ_=>false) HB [] a:=λq L=>by simp at L
 obtain⟨Zbk,Zbl,Zbm,Zbn,Zad,Zae,Zdb⟩:=FR (D:=λ_=>false) (a0:=a) (HBa:=HB) Zq (λ_ h=>h) b_ [] a l (by simpa using xf _ Zbe) Zbi ZM (λt _=>rfl) Zbj h;simp only[lO] at Zad Zae
 let S: (Nat→Bool)→Act→World→Prop:=λD B U=> ∃(k:Nat) (pre:List (Nat × Bool × List Nat)) (V:List (List (Nat × Bool × List Nat))) (b:Act) (HBa:World→Prop) (l2:Fr),sL os b_ k pre V=true∧(∀i∈b_++eY pre,pX os (b_++eY pre) i)∧
  B.tmps.size=n∧B.defers=[]∧hB n l2 b∧
  (∀i,D i=true→i∈b_++eY pre)∧(∀s∈pre,D s.1=true)∧
  (∀(j:Nat) (o:Oper),os[j]? = some o→D j=true→ ∀e∈o.after,Region.binds .any e=true→D e.on=true)∧
  (∀t,B.tmps[t]? = (match writer os t with
   | some i=>if D i=true then b.tmps[t]? else a.tmps[t]?
   | none=>a.tmps[t]?))∧
  uR os a (b_++eY pre) b∧sM P n os a D HBa (b_++eY pre) b∧HBa U∧jh P n os Q k V HBa l2 (λx=>x=U)
 refine wp_region_any Zd ?_;refine Ma (P:=P) (ops:=os.toArray) (Q:=se n Q) S ?_ ?_ ?_ _ _ a _ av av ?_;rintro D i o B U G Zaf ZQ ⟨k,pre,V,b,HBa,l2,W,ZA,Zj,ZB,Zr,Zs,ZC,Zt,Zk,Z,Zl,ZR,ZD⟩;have X:os[i]? = some o:=by simpa using G
 have Zag:=(cK.1 X).1
 obtain⟨ZE,Zbo,Zdc,Zah⟩:=ZN i o X;have Zai: ∀(j:Nat) (o':Oper),os[j]? = some o'→(D j || j == i)=true→ ∀e∈o'.after,Region.binds .any e=true→(D e.on || e.on == i)=true:=by
  intro y o' Za M e N Zm;simp only[mx,beq_iff_eq] at M ⊢
  rcases M with M | rfl
  exact .inl (Zt y o' Za M e N Zm);rw[X] at Za
  simp only[dA] at Za
  subst Za;exact .inl (ZQ e N Zm)
 have Av: ∀(ZF:Oper),os[i]? = some ZF→ ∀e∈ZF.after,Region.binds .any e=true→D e.on=true:=by
  intro ZF Za;rw[X] at Za
  simp only[dA] at Za
  subst Za;exact ZQ
 have Zaj: ∀t∈o.looksAt os.toArray,B.tmps[t]? = (match writer os t with
  | some u=>if u<i then b.tmps[t]? else a.tmps[t]?
  | none=>a.tmps[t]?):=by
  intro t p;have A:=Zbo t p
  rw[Zk t];unfold zu at A
  cases z:writer os t with
  | none=>rfl
  | some y=>
   rw[z] at A
   simp only at A ⊢
   cases Y:Nat.blt y i with
   | true=>
    rw[Y] at A
    have O:y<i:=dV Y
    obtain⟨e,N,Zm,Zbp⟩:=wL A;have M:=ZQ e N Zm
    rw[Zbp] at M
    rw[aw M,aw O]
   | false=>
    rw[Y] at A
    have Zbq: ¬y<i:=λZO=>by
     have:Nat.blt y i=true:=Nat.ble_eq_true_of_le ZO
     rw[this] at Y;cases Y
    rw[ag Zbq];cases Zak:Nat.blt i y with
    | true=>
     rw[Zak] at A
     cases ZS:os[y]? with
     | none=>rw[ZS] at A;cases A
     | some Zbr=>
      rw[ZS] at A
      obtain⟨e,N,Zm,Zbs⟩:=wL A;have M: ¬D y=true:=λM=>by
       have:=Zt y Zbr ZS M e N Zm
       rw[Zbs,Zaf] at this;cases this
      rw[ag M]
    | false=>rw[Zak] at A;cases A
 unfold wpOp;rw[G];simp only;by_cases Ze:i∈b_++eY pre
 ·
  obtain⟨ZF,f,Zf,d,v,K,ak,Zal,ZT,Zbt,ZU⟩:=Zl i Ze Zaf;rw[X] at K
  simp only[dA] at K
  subst K;obtain⟨Zam,Zz⟩:=ZE d ak;obtain⟨o',K,ZV⟩:=ZA i Ze;rw[X] at K
  simp only[dA] at K
  subst K;have Zu: ∀t∈o.looksAt os.toArray,Zf.tmps[t]? = B.tmps[t]? :=by
   intro t p;rw[ZU t p,Zaj t p];cases z:writer os t with
   | none=>rfl
   | some y=>
    simp only;have I:=ZV t p y z
    by_cases O:y<i
    rw[aw (I.1 O),aw O];rw[ag (by rw[I.2 O];simp),ag O]
  have ZW: ∀x∈o.op.operands,Zf.eval x=B.eval x:=by
   intro x E;cases x with
   | tmp t=>
    have p:t∈o.looksAt os.toArray:=by
     unfold Oper.looksAt;refine oq _ (List.mem_filterMap.2 ⟨.tmp t,by simpa using E,rfl⟩)
    simp only[Act.eval,jW,Zu t p]
   | _=>rfl
  have ZX:=execOp_congr o Zah ZW
  have ZG:Region.wanted o (yielded os.toArray Zf.tmps)=Region.wanted o (yielded os.toArray B.tmps):=by
   unfold Region.wanted;cases ZY:o.guard with
   | none=>rfl
   | some ZZ=>
    obtain⟨y,Zbu⟩:=ZZ;simp only;congr 1
    unfold yielded;cases Z0: (os.toArray[y]?).bind (·.dst) with
    | none=>rfl
    | some t=>
     have p:t∈o.looksAt os.toArray:=by
      unfold Oper.looksAt;refine List.mem_append_right _ ?_;simp only[ZY,Z0];simp
     simp only[Option.bind_some,Zu t p]
  have J:=Zbt U ZR U rfl Zf Zal
  have Zv: ∀C w',se n (oE ((d,v)::f) (λx=>x=U)) .normal (Zf.put o.dst C) w'→S (λj=>D j || j == i) (B.put o.dst C) w':=by
   rintro C w' ⟨l1,Zbv,Zbw,rfl⟩;have Zbx:C=v:=by
    have F:=Zbv.val d v (Zbw d v (by simp[look]))
    rw[ak] at F
    simp only[Act.put] at F
    rw[Array.getElem?_setIfInBounds] at F
    simp[Zal.size,Zam] at F
    exact F
   subst Zbx;refine⟨k,pre,V,b,HBa,l2,W,ZA,by rw[ak];simp[Act.put,Zj],by rw[ak];exact ZB,Zr,λu g=>?_,λs A=>by simp[ZC s A],Zai,λt=>?_,Z,λq L Zb=>?_,ZR,ZD⟩;simp only[mx,beq_iff_eq] at g
   rcases g with g | rfl
   exact Zs u g;exact Ze;rw[ak];simp only[Act.put];by_cases Z1:d=t
   subst Z1;rw[Zz];simp[Zj,Zam,ZT]
   rw[ul Z1,Zk t];cases z:writer os t with
   | none=>rfl
   | some y=>
    have O:y≠i:=by
     rintro rfl;obtain⟨x,E,Zn⟩:=ZP t y z;rw[X] at E
     simp only[dA] at E
     subst E;rw[ak] at Zn
     simp only[dA] at Zn
     exact Z1 Zn
    have: (y == i)=false:=by simpa using O
    simp[this]
   simp only[Bool.or_eq_false_iff] at Zb
   exact Zl q L Zb.1
  unfold wpList at J
  split
  rename_i Zg;rw[ZG,aw Zg] at J
  rcases J with J | ⟨_,a0,Zh,l0,_,T⟩
  refine .inl (D2 ZX (λC w' Zby=>Zv C w' Zby) ?_ ?_ ?_ J);rintro Zbz v0 Zh ⟨l0,Z2,_⟩;have:=Z2.pC
  rw[ak] at this
  simp[Act.put] at this
  rintro c Zh ⟨l0,_,T⟩;exact T.elim;rintro⟨a0,Zh,l0,_,T⟩;exact T.elim;exact T.elim;rename_i Zg;rw[ZG,ag Zg] at J
  exact Zv _ _ J
 ·
  cases k with
  | zero=>
   unfold sL at W
   exact absurd (any_beq.1 (i_.1 W i (by simpa using Zag))) Ze
  | succ k=>
  unfold sL at W
  simp only[d4] at W
  obtain⟨⟨_,Zca⟩,Zo⟩:=W;obtain⟨s,Zan,Zcb⟩ : ∃s∈k9 V,s.1=i:=by
   have R:=i_.1 Zca i (by simpa using Zag)
   simp only[mx] at R
   rcases R with (R | R) | R
   exact absurd (any_beq.1 R) Ze;exact PJ V R;exfalso
   obtain⟨m,_,ZH⟩:=List.any_eq_true.1 R;simp only[d4,pz] at ZH
   have Zcc:=FQ Zt Av ZH.2
   rw[any_beq.2 (Zs m Zcc)] at ZH
   exact absurd ZH.1 av
  subst Zcb;have Zo:=i_.1 Zo s Zan
  simp only[d4] at Zo
  obtain⟨⟨⟨Z3,Z4⟩,Z5⟩,Zcd⟩:=Zo;have Zi:b_++eY (pre++[s])=(b_++eY pre)++[s.1]++s.2.2:=by
   rw[FP];simp[eY]
  have Zao: ((b_++eY pre)++[s.1]++s.2.2).Nodup:=by rw[←Zi];exact xf _ Z3
  have ZI: ∀i∈s.1::s.2.2,pX os (b_++eY (pre++[s])) i:=λi hi=>Au (i_.1 Z4 i hi)
  have Zce: ∀i∈b_++eY (pre++[s]),pX os (b_++eY (pre++[s])) i:=by
   intro u g;rw[Zi] at g
   rcases cZ.1 g with g | g
   rcases cZ.1 g with g | g
   rw[Zi,ea];exact (ZA u g).hK g _;exact ZI u (by simp at g;simp[g]);exact ZI u (by simp[g])
  obtain⟨o',K,ZV⟩:=ZI s.1 av;rw[X] at K
  simp only[dA] at K
  subst K;have Zcf:os.getD s.1 default=o:=by simp[List.getD,X]
  have Zap:=ZD s Zan
  rw[Zcf] at Zap
  have Zu: ∀t∈o.looksAt os.toArray,b.tmps[t]? = B.tmps[t]? :=by
   intro t p;rw[Zaj t p];cases z:writer os t with
   | none=>exact Z t (by simp[z])
   | some y=>
    simp only;have I:=ZV t p y z
    rw[Zi,ea,sb] at I
    by_cases O:y<s.1
    rw[aw O];rw[ag O];refine Z t λu g Zd=>?_
    rw[z] at g
    obtain rfl:=oA g;have:=I.2 O
    rw[(At _ Ze).2 Zd] at this
    cases this
  have ZW: ∀x∈o.op.operands,b.eval x=B.eval x:=by
   intro x E;cases x with
   | tmp t=>
    have p:t∈o.looksAt os.toArray:=by
     unfold Oper.looksAt;refine oq _ (List.mem_filterMap.2 ⟨.tmp t,by simpa using E,rfl⟩)
    simp only[Act.eval,jW,Zu t p]
   | _=>rfl
  have ZX:=execOp_congr o Zah ZW
  have ZG:Region.wanted o (yielded os.toArray b.tmps)=Region.wanted o (yielded os.toArray B.tmps):=by
   unfold Region.wanted;cases ZY:o.guard with
   | none=>rfl
   | some ZZ=>
    obtain⟨y,Zbu⟩:=ZZ;simp only;congr 1
    unfold yielded;cases Z0: (os.toArray[y]?).bind (·.dst) with
    | none=>rfl
    | some t=>
     have p:t∈o.looksAt os.toArray:=by
      unfold Oper.looksAt;refine List.mem_append_right _ ?_;simp only[ZY,Z0];simp
     simp only[Option.bind_some,Zu t p]
  have Zcg:s.2.1=true→ ∀q∈b_++eY pre,D q=true:=by
   intro Zc q L;rw[Zc] at Z5
   simp only[Bool.not_true,Bool.false_or] at Z5
   have:=i_.1 Z5 q L
   simp only[mx] at this
   rcases this with R | R
   obtain⟨r,Zch,N⟩:=List.any_eq_true.1 R;rw[←gd N];exact ZC r Zch;exact FQ Zt Av R
  have Zv: ∀C w',se n (q0 (λl' w'=>(s.2.1=true∨HBa w')∧ ∃HB:World→Prop,HB w'∧gC P n os.toArray HB (λZp=>jh P n os Q k (k_ s.1 V) (λx=>(s.2.1=true∨HBa x)∧HB x) Zp (λx=>x=w')) (s.2.2.map (λq=>os.getD q default)) l')) .normal (b.put o.dst C) w'→
   S (λj=>D j || j == s.1) (B.put o.dst C) w':=by
   rintro C w' ⟨Zdd,Zci,Zcj,Zaq,Zck,Zcl⟩;have Y: ∀t,writer os t≠some s.1→(b.put o.dst C).tmps[t]? = b.tmps[t]? :=by
    intro t p;cases ak:o.dst with
    | none=>rfl
    | some d=>
     simp only[Act.put];refine ul λe=>?_
     subst e;exact p (ZE d ak).2
   have Zar: ∀t,writer os t≠some s.1→(B.put o.dst C).tmps[t]? = B.tmps[t]? :=by
    intro t p;cases ak:o.dst with
    | none=>rfl
    | some d=>
     simp only[Act.put];refine ul λe=>?_
     subst e;exact p (ZE d ak).2
   have Zcm: ∀t,writer os t=some s.1→(B.put o.dst C).tmps[t]? = (b.put o.dst C).tmps[t]? :=by
    intro t p;obtain⟨x,E,Zn⟩:=ZP t s.1 p;rw[X] at E
    simp only[dA] at E
    subst E;have Zcn:=(ZE t Zn).1
    rw[Zn];simp[Act.put,Zj,Zr.size,Zcn]
   have Zco:uR os a ((b_++eY pre)++[s.1]) (b.put o.dst C):=by
    intro t p;rw[Y t (λe=>p s.1 e av)];exact Z t λu g Zd=>p u g (by simp only[cZ];exact .inl (cZ.1 Zd))
   let Z6:World→Prop:=λx=>(s.2.1=true∨HBa x)∧Zaq x
   have Zcp:sM P n os a (λj=>D j || j == s.1) Z6 ((b_++eY pre)++[s.1]) (b.put o.dst C):=by
    intro q L Zb;simp only[Bool.or_eq_false_iff] at Zb
    have Zas:q≠s.1:=by simpa using Zb.2
    have Z7:q∈b_++eY pre:=by
     rcases cZ.1 L with h | h
     exact h;exact absurd (by simpa using h) Zas
    obtain⟨Zat,f,Zf,d,v,K,Zau,Zcq,Zcr,Zcs,Zct⟩:=Zl q Z7 Zb.1;refine⟨Zat,f,Zf,d,v,K,Zau,Zcq,?_,λw Zy=>?_,λt p=>?_⟩;rw[Y d (λe=>by rw[(Zq q Zat d K Zau).2] at e;exact Zas (oA e))];exact Zcr
    rcases Zy.1 with Zc | Zc
    have:=Zcg Zc q Z7
    rw[Zb.1] at this;cases this
    exact Zcs w Zc;rw[Zct t p];cases z:writer os t with
    | none=>rfl
    | some u=>
     simp only;rw[As _ Z7];by_cases I:ky (b_++eY pre) u q=true
     rw[aw I,aw I,Y t (λe=>by rw[z] at e;exact Ze (oA e▸FO I))];rw[ag I,ag I]
   obtain⟨Zav,Zp,hl,fg,qZ,uF,Zcu⟩:=FR (D:=λj=>D j || j == s.1) (a0:=a) (HBa:=Z6) (HB:=Zaq) Zq (λ_ h=>h.2) s.2.2 _ _ _ Zao (λq L=>let ⟨_,G,_⟩:=ZI q (by simp[L]);(cK.1 G).1) Zci Zco Zcp Zcl;have Zaw: ∀u,(D u || u == s.1)=true→u∈(b_++eY pre)++[s.1]:=by
    intro u g;simp only[mx,beq_iff_eq] at g
    rcases g with g | rfl
    exact oq _ (Zs u g);exact List.mem_append_right _ av
   refine⟨k,pre++[s],k_ s.1 V,Zav,Z6,Zp,Zcd,Zce,by cases o.dst <;> simp[Act.put,Zj],by cases o.dst <;> simp[Act.put,ZB],hl,λu g=>?_,λZax Zcv=>?_,Zai,λt=>?_,?_,?_,⟨Zcj,Zck⟩,fg⟩;rw[Zi];exact oq _ (Zaw u g);rcases cZ.1 Zcv with h | h
   simp[ZC Zax h]
   obtain rfl:Zax=s:=by simpa using h
   simp
   cases z:writer os t with
   | none=>
    simp only;rw[Zar t (by rw[z];simp),Zk t,z]
   | some u=>
    simp only;have Zay: (D u || u == s.1)=true→Zav.tmps[t]? = (b.put o.dst C).tmps[t]? :=by
     intro g;refine Zcu t λZde Zaz Zd=>?_
     rw[z] at Zaz
     obtain rfl:=oA Zaz;exact (fW.1 Zao).2.2 _ (Zaw u g) _ Zd rfl
    by_cases Z8:u=s.1
    subst Z8;rw[Zcm t z,aw av,Zay av];have Zw:writer os t≠some s.1:=by rw[z];exact λe=>Z8 (oA e)
    have ZU: (u == s.1)=false:=by simpa using Z8
    rw[Zar t Zw,Zk t,z];simp only[ZU,Bool.or_false];by_cases Zx:D u=true
    rw[aw Zx,aw Zx,Zay (by simp[Zx]),Y t Zw];rw[ag Zx,ag Zx]
   rw[Zi];exact qZ
   rw[Zi];exact uF
  have J:wpList P os.toArray _ [o] b U:=Zap U rfl b Zr
  unfold wpList at J
  rw[ZG] at J
  split at J
  rename_i Zg;rw[aw Zg];rcases J with J | ⟨_,a0,Zh,l0,_,T⟩
  refine .inl (D2 ZX (λC w' Zcw=>Zv C w' Zcw) ?_ ?_ ?_ J);rintro Zbz v0 Zh ⟨l0,Z2,_⟩;have:=Z2.pC
  cases ak:o.dst <;> rw[ak] at this <;> simp[Act.put] at this
  rintro c Zh ⟨l0,_,T⟩;exact T.elim;rintro⟨a0,Zh,l0,_,T⟩;exact T.elim;exact T.elim;rename_i Zg;rw[ag Zg];exact Zv _ _ J
 rintro D B U Zcx ⟨k,pre,V,b,HBa,l2,W,ZA,Zj,ZB,Zr,Zs,ZC,Zt,Zk,Z,Zl,ZR,ZD⟩;have Zba: ∀i,i<os.length→D i=true:=λi hi=>Zcx i (by simpa using hi)
 have Zcy: ∀(t:Nat),B.tmps[t]? = b.tmps[t]? :=by
  intro t;rw[Zk t];cases z:writer os t with
  | none=>exact (Z t (by simp[z])).symm
  | some i=>
   obtain⟨x,E,_⟩:=ZP t i z;simp only;rw[aw (Zba i (cK.1 E).1)]
 have Zcz:hB n l2 B:=⟨Zj,ZB,λt v ZT=>by rw[Zcy t];exact Zr.val t v ZT⟩
 cases k with
 | zero=>exact⟨l2,Zcz,ZD U rfl⟩
 | succ k=>
  exfalso
  unfold sL at W
  simp only[d4] at W
  obtain⟨⟨Zw,_⟩,Zo⟩:=W;cases Zc:k9 V with
  | nil=>rw[Zc] at Zw;cases Zw
  | cons s r=>
   have F:=i_.1 Zo s (by rw[Zc];simp)
   simp only[d4] at F
   obtain⟨⟨⟨Z3,Z4⟩,_⟩,_⟩:=F;obtain⟨o,G,_⟩:=Au (i_.1 Z4 s.1 av);have Zda:=Zs s.1 (Zba _ (cK.1 G).1)
   have Zbb:=xf _ Z3
   rw[FP,←ea,fW] at Zbb
   exact Zbb.2.2 _ Zda s.1 (by simp[eY]) rfl
 intro i o G e N I;obtain⟨_,_,Zl,_⟩:=ZN i o (by simpa using G);exact Zl e N I;have Z9: ∀j,(Array.replicate os.toArray.size false).getD j false=false:=by
  intro j;simp only[jW,Array.getElem?_replicate];split <;> rfl
 refine⟨ZJ,[],ZK,Zbk,HB,Zbl,Zbg,by simpa [eY] using Zac,ZM.size,ZM.pC,Zbm,λi hi=>absurd ((Z9 i).symm.trans hi) av,λs A=>by simp at A,λj o _ M=>absurd ((Z9 j).symm.trans M) av,λt=>?_,by simpa [eY] using Zad,?_,Zbc _ (Zaa w Zy),FM _ Zbn (λx E=>E▸Zaa w Zy)⟩;cases writer os t with
 | none=>rfl
 | some i=>simp only[Z9];rfl
 rw[show b_++eY []=b_ by simp[eY]];intro q L Zb;exact Zae q L rfl
section
theorem sN {n m:Nat} (h:m<2 ^ n): (BitVec.ofInt n (m:Int)).toNat=m:=by
 rw[BitVec.ofInt_natCast,BitVec.toNat_ofNat,Nat.mod_eq_of_lt h]
theorem nz {z:Int} (a:0≤z) (b:z<256):IntKind.u8.wrap z=z:=by simp[IntKind.wrap,IntKind.bits,IntKind.signed];omega
theorem xg {z:Int} (a:0≤z) (b:z<4294967296):IntKind.u32.wrap z=z:=by simp[IntKind.wrap,IntKind.bits,IntKind.signed];omega
theorem uS {z:Int} (a: -2147483648≤z) (b:z<2147483648):IntKind.i32.wrap z=z:=by simp[IntKind.wrap,IntKind.bits,IntKind.signed];omega
theorem and_eq {k:IntKind} {a b:Int} {m n:Nat} {r:Int} (c:a=m) (d:b=n) (e:m<2 ^ k.bits) (f:n<2 ^ k.bits) (g:k.wrap ((m &&& n:Nat):Int)=r):k.wrap ((BitVec.ofInt k.bits a &&& BitVec.ofInt k.bits b).toNat:Int)=r:=by
 subst c d;rw[BitVec.toNat_and,sN e,sN f,g]
theorem or_eq {k:IntKind} {a b:Int} {m n:Nat} {r:Int} (c:a=m) (d:b=n) (e:m<2 ^ k.bits) (f:n<2 ^ k.bits) (g:k.wrap ((m ||| n:Nat):Int)=r):k.wrap ((BitVec.ofInt k.bits a ||| BitVec.ofInt k.bits b).toNat:Int)=r:=by
 subst c d;rw[BitVec.toNat_or,sN e,sN f,g]
theorem FS {k:IntKind} {a b:Int} {m n:Nat} {r:Int} (c:a=m) (d:b=n) (e:m<2 ^ k.bits) (f:n<2 ^ k.bits) (g:k.wrap ((m &&& (2 ^ k.bits - 1 - n):Nat):Int)=r):k.wrap ((BitVec.ofInt k.bits a &&& ~~~ BitVec.ofInt k.bits b).toNat:Int)=r:=by
 subst c d;rw[BitVec.toNat_and,BitVec.toNat_not,sN e,sN f,g]
section
variable {P:Program} {n:Nat} {ops:Array Oper} {Q:cq} {rest:List Oper} {l:Fr} {H:World→Prop} {d:Nat} {ty:TypeId} {pos:String} {a7:Array Edge} {cv dx:TypeId} {x y:Operand} {k aH:IntKind} {a b r:Int}
theorem rb (ak:Nat.blt d n=true) (f:ba l x=some (.int k a)) (g:ba l y=some (.int k b)) (i:k.wrap ((BitVec.ofInt k.bits a &&& BitVec.ofInt k.bits b).toNat:Int)=r)
 (h:az P n ops Q rest ((d,.int k r)::l) H):az P n ops Q (⟨some d,.binOp .and cv x y dx,ty,pos,a7,none⟩::rest) l H:=
 dd _ ak (λj w c=>by
  have e:binOp .and cv (.int k a) (.int k b)=pure (.int k r):=by
   rw[binOp_and,←i];rfl
  simp only[execOp,c x _ f,c y _ g,eqGuard,e];simp[Sem.run_pure,Result.andThen]) h
theorem mN (ak:Nat.blt d n=true) (f:ba l x=some (.int k a)) (g:ba l y=some (.int k b)) (i:k.wrap ((BitVec.ofInt k.bits a ||| BitVec.ofInt k.bits b).toNat:Int)=r)
 (h:az P n ops Q rest ((d,.int k r)::l) H):az P n ops Q (⟨some d,.binOp .or cv x y dx,ty,pos,a7,none⟩::rest) l H:=
 dd _ ak (λj w c=>by
  have e:binOp .or cv (.int k a) (.int k b)=pure (.int k r):=by
   rw[binOp_or,←i];rfl
  simp only[execOp,c x _ f,c y _ g,eqGuard,e];simp[Sem.run_pure,Result.andThen]) h
theorem uT (ak:Nat.blt d n=true) (f:ba l x=some (.int k a)) (g:ba l y=some (.int k b)) (i:k.wrap ((BitVec.ofInt k.bits a &&& ~~~ BitVec.ofInt k.bits b).toNat:Int)=r)
 (h:az P n ops Q rest ((d,.int k r)::l) H):az P n ops Q (⟨some d,.binOp .andNot cv x y dx,ty,pos,a7,none⟩::rest) l H:=
 dd _ ak (λj w c=>by
  have e:binOp .andNot cv (.int k a) (.int k b)=pure (.int k r):=by
   rw[binOp_andNot,←i];rfl
  simp only[execOp,c x _ f,c y _ g,eqGuard,e];simp[Sem.run_pure,Result.andThen]) h
theorem pY (ak:Nat.blt d n=true) (e:ba l x=some (.int k a)) (f:ba l y=some (.int aH b)) (g:0≤b) (i:a/2 ^ min b.toNat k.bits=r)
 (h:az P n ops Q rest ((d,.int k r)::l) H):az P n ops Q (⟨some d,.binOp .shr cv x y dx,ty,pos,a7,none⟩::rest) l H:=
 dd _ ak (λj w c=>by simp[execOp,c x _ e,c y _ f,eqGuard,binOp,shift_shr_any k aH a b g,i]) h
theorem oN (ak:Nat.blt d n=true) (e:ba l x=some (.int k a)) (f:ba l y=some (.int aH b)) (j:0≤b) (g:k.wrap (a*2 ^ min b.toNat k.bits)=r)
 (h:az P n ops Q rest ((d,.int k r)::l) H):az P n ops Q (⟨some d,.binOp .shl cv x y dx,ty,pos,a7,none⟩::rest) l H:=
 dd _ ak (λm w c=>by
  have i: ¬b<0:=by omega
  simp[execOp,c x _ e,c y _ f,eqGuard,binOp,Op.shift,i,g]) h
def cz:bA UInt8:=⟨λc=>[.int .u8 (c.toNat:Int)],1,λ_=>rfl,λ_=>by repeat (first | exact aI.nil | refine aI.cons rfl ?_)⟩
theorem FT: ∀(s:List UInt8) (a:ByteArray),(s.map (λc=>(c.toNat:Int))).foldl (λr n=>r.push (UInt8.ofNat n.toNat)) a=a++bs s
 | [],a=>by simp[bs,ByteArray.ext_iff]
 | c::s,a=>by
  rw[lM,r6,FT s];have h:UInt8.ofNat (c.toNat:Int).toNat=c:=by simp
  rw[h];apply ByteArray.ext
  simp[bs,ByteArray.push]
theorem ji {H:World→Prop} {src g e:TypeId} {F:Nat→Prop} {A:Option Addr} {m c:Nat} {s:List UInt8} (r:P.underlying src=some (.slice e)) (t:P.underlying e=some (.int .u8)) (v:P.underlying g=some .string) (ak:Nat.blt d n=true) (y:ba l x=some (.slice A m c))
 (z: ∀w,H w→Rd cz w F A m c s)
 (h:az P n ops Q rest ((d,.string (bs s))::l) H):az P n ops Q (⟨some d,.convert src g x,ty,pos,a7,none⟩::rest) l H:=
 sm _ ak (λG w B C=>by
  have o:=z w C
  have q:=o.len
  simp only[execOp,B x _ y];rw[Sem.run_bind,run_convert_bytes_string w src g e A m c r t v];by_cases D:m=0
  subst D;have:s=[]:=iC q
  subst this;cases A with
  | none=>simp[Conv.bytesToString,Result.andThen,Sem.run_pure];rfl
  | some a=>
   have i: (loadCells a 0).run P w= .ok (([]:List Int).map (Value.int .u8)).toArray w:=by
    have:=run_loadCellsFrom (P:=P) (w:=w) (p:=a) [] 0 #[] (λj u f=>by simp at f)
    simpa [loadCells] using this
   rw[run_bytesToString w a 0 c [] i];simp[Result.andThen,Sem.run_pure]
   rfl
  obtain⟨a,rfl,_,E⟩:=o.cells aa;have i: (loadCells a m).run P w= .ok ((s.map (λc=>(c.toNat:Int))).map (Value.int .u8)).toArray w:=by
   have:=run_loadCellsFrom (P:=P) (w:=w) (p:=a) (s.map (λc=>Value.int .u8 (c.toNat:Int))) 0 #[] (λj u f=>by
    rw[eD] at f
    cases k:s[j]? with
    | none=>rw[k] at f;simp at f
    | some b=>
     rw[k] at f
     simp only[oz,dA] at f
     subst f;have:=E j b 0 (.int .u8 (b.toNat:Int)) k rfl
     simpa [cz,Addr.add] using this)
   rw[mC];simpa [loadCells,q,Function.comp_def] using this
  rw[run_bytesToString w a m c _ i,FT];have:ByteArray.empty++bs s=bs s:=by apply ByteArray.ext;simp[bs]
  rw[this];simp[Result.andThen,Sem.run_pure]) h
theorem xh {args:List Operand} {db:Array TypeId} {f:FuncId} {vs:List Value} {v:Value} {H:World→Prop} (ak:Nat.blt d n=true) (b:cI l args=some vs)
 (c: ∀w,H w→(callFunc f vs.toArray).run P w= .ok (.value v) w)
 (h:az P n ops Q rest ((d,v)::l) H):az P n ops Q (⟨some d,.call ⟨.value (.func f),args.toArray,db⟩,ty,pos,a7,none⟩::rest) l H:=
 sm v ak (λe w a g=>by
  have:=c w g
  have i:e (.func f)= .func (.func f) #[] #[]:=a (.func f) _ rfl
  simp[execOp,resolve,i,Deferred.ofValue,invoke,a.list _ _ b,this]) h
theorem jj {args:List Operand} {db:Array TypeId} {f:FuncId} {vs:List Value} {v:Value} {H:World→Prop} (ak:Nat.blt d n=true) (b:ad P f) (c:cI l args=some vs)
 (g: ∀w,H w→Calls P f vs.toArray w (λe w'=>e= .returned v∧w'=w))
 (h:az P n ops Q rest ((d,v)::l) H):az P n ops Q (⟨some d,.call ⟨.value (.func f),args.toArray,db⟩,ty,pos,a7,none⟩::rest) l H:=by
 refine gT rfl ak b c λw a=>?_
 have:=g w a
 simp only[iA,i8];refine this.mono ?_;rintro e w' ⟨rfl,rfl⟩;exact⟨v,rfl,h.at a⟩
theorem sO {args:List Operand} {db:Array TypeId} {f:FuncId} {vs:List Value} {v:Value} {H H':World→Prop} (ak:Nat.blt d n=true) (a:ad P f) (b:cI l args=some vs)
 (c: ∀w,H w→Calls P f vs.toArray w (λe w'=>e= .returned v∧H' w'))
 (h:az P n ops Q rest ((d,v)::l) H'):az P n ops Q (⟨some d,.call ⟨.value (.func f),args.toArray,db⟩,ty,pos,a7,none⟩::rest) l H:=by
 refine gT rfl ak a b λw g=>?_
 have:=c w g
 simp only[iA,i8];refine this.mono ?_;rintro e w' ⟨rfl,i⟩;exact⟨v,rfl,h.at i⟩
theorem Aw {ih:Operand} {args:List Operand} {db:Array TypeId} {f:FuncId} {vs:List Value} {v:Value} {H H':World→Prop} {first cap:Array Value} (a:ba l ih=some (.func (.func f) first cap)) (ak:Nat.blt d n=true) (b:ad P f) (c:cI l args=some vs)
 (g: ∀w,H w→Calls P f (first++vs.toArray++cap) w (λe w'=>e= .returned v∧H' w'))
 (h:az P n ops Q rest ((d,v)::l) H'):az P n ops Q (⟨some d,.call ⟨.value ih,args.toArray,db⟩,ty,pos,a7,none⟩::rest) l H:=by
 refine gT a ak b c λw i=>?_
 refine (g w i).mono ?_;rintro e w' ⟨rfl,j⟩;exact⟨v,rfl,h.at j⟩
end
theorem FU {P:Program} {f:FuncId} {fn:Func} (a:P.funcs[f]? = some fn) (b: (fn.name == "runtime.NumGoroutine")=false) (d:fn.body.isNone=true) (e:Extern.findNext fn=none) (g:Extern.find fn=some Extern.BytealgIndexByte.indexByte) (s:List UInt8) (c:UInt8) (w:World):
 (callFunc f [Value.string (bs s),.int .u8 (c.toNat:Int)].toArray).run P w= .ok (.value (.int .i64 (Lib.indexByte s c))) w:=by
 rw[run_callFunc_extern a b d e g];have:=Lib.run_indexByteString (P:=P) (bs s) (c.toNat:Int) w
 rw[show [Value.string (bs s),Value.int .u8 (c.toNat:Int)].toArray= #[Value.string (bs s),Value.int .u8 (c.toNat:Int)] from rfl,this];have h: (c.toNat:Int).toNat.toUInt8=c:=by simp
 simp[Result.andThen,h]
end
section
section
variable {P:Program} {n:Nat} {ops:Array Oper} {Q:cq} {rest:List Oper} {l:Fr} {H:World→Prop} {d:Nat} {ty:TypeId} {pos:String} {a7:Array Edge} {x i:Operand} {k:IntKind} {j:Int}
theorem lT {t e len q:Nat} {z v:Value} {cs:List Value} (c:P.underlying t=some (.array len e)) (a:cL P e z) (ak:Nat.blt d n=true) (f:ba l x=some (.agg cs.toArray)) (hi:ba l i=some (.int k j)) (g:j=(q:Int)) (m:q<len) (o:cs[q]? = some v)
 (h:az P n ops Q rest ((d,v)::l) H):az P n ops Q (⟨some d,.index t x i,ty,pos,a7,none⟩::rest) l H:=by
 subst g;obtain⟨A,p,r⟩:=a.fe;obtain⟨inf,s,B,u⟩:=a.inf;refine dd _ ak (λC w b=>?_) h;have y: (Instr.index t (.agg cs.toArray) (.int k (q:Int))).run P w= .ok v w:=by
  simp[Instr.index,asIntOf,run_underlying c,m,run_sizeOf s,u,part,pE p,r,o]
 simp[execOp,b x _ f,b i _ hi,y]
end
end
end Go.Proofs.YtlgnfdodnhokjaaGreatDoor.Mq
