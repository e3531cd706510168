/- part 7 of the proof -/
import Derived.Test.YtkeokgcdnfjaaaaGreatDoorQ06
import Derived.Laws.BytesString
import Derived.Laws.Externs
import Derived.Laws.Shifts
import Derived.Lib.Bytealg
namespace Go.Proofs.YtkeokgcdnfjaaaaGreatDoor.Mq
open Go Go.RowKit
def pJ (cs:List Chunk) (w:World):Prop:= ∀c∈cs,c.pred w
theorem af.aF {b:World} {S:List Nat} {cs:List Chunk} {w:World} (h:af b S cs w):pJ cs w:=h.all
theorem pJ.eM {cs:List Chunk} {w:World} (h:pJ cs w) {g:Nat} {xs:List Value} {t:TypeId} (a:Has cs (aD g xs t)) {o:Nat} {v:Value} (b:xs[o]? = some v):
 w.cell? ⟨g,o,none⟩=some v:=by
 have c:w.heap[g]? = some (.cells xs.toArray t (0,0)):=h _ a.mem
 rw[cell_of_row w g o xs.toArray t (0,0) c];simpa using b
def gt (P:Program) (n:Nat) (ops:Array Oper) (HB:World→Prop) (a:Fr→Prop):List Oper→Fr→Prop
 | [],l=>a l
 | o::rest,l=> ∃d v,o.dst=some d∧(∀w,HB w→az P n ops (oh ((d,v)::l) (λx=>x=w)) [o] l (λx=>x=w))∧gt P n ops HB a rest ((d,v)::l)
theorem pK {P:Program} {n:Nat} {ops:Array Oper} {HB:World→Prop} {a:Fr→Prop} {l:Fr} (h:a l):gt P n ops HB a [] l:=h
theorem aL {P:Program} {n:Nat} {ops:Array Oper} {HB:World→Prop} {a:Fr→Prop} {l:Fr} {o:Oper} {rest:List Oper} {d:Nat} {v:Value} (ak:o.dst=some d)
 (h: ∀w,HB w→az P n ops (oh ((d,v)::l) (λx=>x=w)) [o] l (λx=>x=w)) (b:gt P n ops HB a rest ((d,v)::l)):gt P n ops HB a (o::rest) l:=⟨d,v,ak,h,b⟩
theorem my {P:Program} {n:Nat} {ops:Array Oper} {HB:World→Prop} {a:Fr→Prop} {l:Fr} {os:List Oper} {c:Bool} (t:Nat) (e:look l t=some (.bool c)) (b:c=true→gt P n ops HB a os l) (d:c=false→gt P n ops HB a os l):gt P n ops HB a os l:=by
 cases c
 exact d rfl;exact b rfl
theorem Fi {P:Program} {n:Nat} {ops:Array Oper} {HB:World→Prop} {a b:Fr→Prop} (c: ∀l,a l→b l): ∀(os:List Oper) (l:Fr),gt P n ops HB a os l→gt P n ops HB b os l
 | [],_,h=>c _ h
 | _::os,_,⟨d,v,ak,h,e⟩=>⟨d,v,ak,h,Fi c os _ e⟩
def eS:List (Nat × Bool × List Nat)→List Nat
 | []=>[]
 | s::r=>s.1::(s.2.2++eS r)
def qU (i:Nat):List (Nat × Bool × List Nat)→Bool
 | s::_=>Nat.beq s.1 i
 | []=>false
def k1:List (List (Nat × Bool × List Nat))→List (Nat × Bool × List Nat)
 | []=>[]
 | []::r=>k1 r
 | (s::_)::r=>match r.any (qU s.1) with
  | true=>k1 r
  | false=>s::k1 r
def k2 (i:Nat):List (List (Nat × Bool × List Nat))→List (List (Nat × Bool × List Nat))
 | []=>[]
 | []::r=>k2 i r
 | (s::p)::r=>match Nat.beq s.1 i with
  | true=>p::k2 i r
  | false=>k2 i r
def i8 (P:Program) (n:Nat) (os:List Oper) (Q:cl):Nat→List (List (Nat × Bool × List Nat))→(World→Prop)→Fr→(World→Prop)→Prop
 | 0,_,_,l,H=>dP Q .normal l H
 | k+1,a,HBa,l,H=> ∀s∈k1 a,az P n os.toArray (qL (λl' w'=>(s.2.1=true∨HBa w')∧ ∃HB:World→Prop,HB w'∧gt P n os.toArray HB (λb=>i8 P n os Q k (k2 s.1 a) (λx=>(s.2.1=true∨HBa x)∧HB x) b (λx=>x=w')) (s.2.2.map (λq=>os.getD q default)) l')) [os.getD s.1 default] l H
theorem Fj {P:Program} {n:Nat} {os:List Oper} {Q:cl}: ∀(k:Nat) {b:List (List (Nat × Bool × List Nat))} {HBa:World→Prop} {l:Fr} {H H':World→Prop},i8 P n os Q k b HBa l H→(∀w,H' w→H w)→i8 P n os Q k b HBa l H'
 | 0,_,_,_,_,_,h,a=>λw c=>h w (a w c)
 | _+1,_,_,_,_,_,h,a=>λs d=>ha (h s d) (Sub.refl _) a
theorem wT {P:Program} {n:Nat} {os:List Oper} {Q:cl} {a:List (List (Nat × Bool × List Nat))} {HBa:World→Prop} {l:Fr} {H:World→Prop} (h:dP Q .normal l H):i8 P n os Q 0 a HBa l H:=h
theorem sm {P:Program} {n:Nat} {os:List Oper} {Q:cl} {k:Nat} {a:List (List (Nat × Bool × List Nat))} {HBa:World→Prop} {l:Fr} {H:World→Prop} (c:List (Nat × Bool × List Nat)) (b:k1 a=c)
 (h: ∀s∈c,az P n os.toArray (qL (λl' w'=>(s.2.1=true∨HBa w')∧ ∃HB:World→Prop,HB w'∧gt P n os.toArray HB (λd=>i8 P n os Q k (k2 s.1 a) (λx=>(s.2.1=true∨HBa x)∧HB x) d (λx=>x=w')) (s.2.2.map (λq=>os.getD q default)) l')) [os.getD s.1 default] l H):
 i8 P n os Q (k+1) a HBa l H:=by subst b;exact h
theorem bY {P:Program} {n:Nat} {os:List Oper} {Q:cl} {HBa:World→Prop} {l:Fr} {H:World→Prop} {s:Nat × Bool × List Nat} {k:Nat} {c:List (List (Nat × Bool × List Nat))} (HB:World→Prop)
 (d: ∀w,H w→(s.2.1=true∨HBa w)) (f: ∀w,H w→HB w) (h:gt P n os.toArray HB (λa=>i8 P n os Q k (k2 s.1 c) (λx=>(s.2.1=true∨HBa x)∧HB x) a H) (s.2.2.map (λq=>os.getD q default)) l):
 az P n os.toArray (qL (λl' w'=>(s.2.1=true∨HBa w')∧ ∃HB:World→Prop,HB w'∧gt P n os.toArray HB (λa=>i8 P n os Q k (k2 s.1 c) (λx=>(s.2.1=true∨HBa x)∧HB x) a (λx=>x=w')) (s.2.2.map (λq=>os.getD q default)) l')) [] l H:=
 rZ λw b=>⟨d w b,HB,f w b,Fi (λ_ h=>Fj k h (λ_ e=>e▸b)) _ _ h⟩
def ko (a:List Nat) (j i:Nat):Bool:=(a.takeWhile (λx=> !Nat.beq x i)).any (Nat.beq j)
def z6 (os:List Oper) (i j:Nat):Bool:=(um os i i).any (Nat.beq j)
def Fk (n:Nat) (os:List Oper) (i:Nat) (o:Oper):Bool:=
 (match o.dst with
  | some d=>Nat.blt d n && (match writer os d with | some j=>Nat.beq j i | none=>false)
  | none=>true) &&
 (o.looksAt os.toArray).all (zc os i o) &&
 (o.after.all λe=> !Region.binds .any e || Nat.blt e.on i) &&
 (match o.op with | .select .. =>false | _=>true)
def wU (os:List Oper) (a:List Nat) (i:Nat):Bool:=match os[i]? with
 | some o=>(o.looksAt os.toArray).all (λt=>match writer os t with
  | none=>true
  | some j=>match Nat.blt j i with
   | true=>ko a j i
   | false=> !ko a j i)
 | none=>false
def sn (os:List Oper) (b8:List Nat):Nat→List (Nat × Bool × List Nat)→List (List (Nat × Bool × List Nat))→Bool
 | 0,pre,_=>(List.range os.length).all λi=>(b8++eS pre).any (Nat.beq i)
 | k+1,pre,a=>
  (match k1 a with | []=>false | _=>true) && ((List.range os.length).all λi=>(b8++eS pre).any (Nat.beq i) || a.any (qU i) || (List.range os.length).any (λm=> !(b8++eS pre).any (Nat.beq m) && z6 os i m)) &&
  (k1 a).all λs=>uw (b8++eS (pre++[s])) && (s.1::s.2.2).all (wU os (b8++eS (pre++[s]))) &&
   (!s.2.1 || (b8++eS pre).all (λq=>pre.any (λr=>Nat.beq r.1 q) || z6 os s.1 q)) && sn os b8 k (pre++[s]) (k2 s.1 a)
def z7 (n:Nat) (b8:List Nat) (k:Nat) (a:List (List (Nat × Bool × List Nat))) (os:List Oper):Bool:=
 ((List.range os.length).all λi=>match os[i]? with
  | some o=>Fk n os i o
  | none=>true) &&
 uw b8 && b8.all (wU os b8) && sn os b8 k [] a
theorem any_beq {l:List Nat} {j:Nat}:l.any (Nat.beq j)=true↔j∈l:=by
 rw[List.any_eq_true];constructor
 rintro⟨x,a,b⟩;rw[fV b];exact a
 intro h;exact⟨j,h,by simp⟩
theorem Fl {a:List Nat} {j i:Nat} (h:ko a j i=true):j∈a:=by
 have:=any_beq.1 h
 exact List.Sublist.mem this (List.takeWhile_sublist _)
theorem z8 {a:List Nat} {j i:Nat} (x:List Nat) (h:i∈a):ko (a++x) j i=ko a j i:=by
 unfold ko;congr 1
 induction a with
 | nil=>cases h
 | cons y a b=>
  simp only[mi,List.takeWhile_cons];cases c:Nat.beq y i with
  | true=>simp
  | false=>
   have:i∈a:=by
    rcases eD.1 h with rfl | h
    simp at c
    exact h
   simp[b this]
theorem z_ {a:List Nat} {j i:Nat} (x:List Nat) (h:i∉a):ko (a++i::x) j i=true↔j∈a:=by
 unfold ko;rw[any_beq];have: (a++i::x).takeWhile (λx=> !Nat.beq x i)=a:=by
  induction a with
  | nil=>simp
  | cons y a b=>
   have c:Nat.beq y i=false:=by
    cases d:Nat.beq y i with
    | false=>rfl
    | true=>exact absurd (fV d) (λe=>h (e▸List.mem_cons_self))
   simp only[mi,List.takeWhile_cons,c,Bool.not_false,if_true];rw[b (λf=>h (tZ _ f))]
 rw[this]
theorem wV: ∀(l:List Nat),uw l=true→l.Nodup
 | [],_=>List.nodup_nil
 | x::l,h=>by
  simp only[uw,dY,pj,List.any_eq_false] at h
  exact List.nodup_cons.2 ⟨λa=>h.1 x a av,wV l h.2⟩
theorem Fm (x y:List (Nat × Bool × List Nat)):eS (x++y)=eS x++eS y:=by
 induction x with
 | nil=>rfl
 | cons s x a=>simp[eS,a]
theorem Fo {os:List Oper} {D:Nat→Bool} {i j:Nat} (a: ∀(j:Nat) (o:Oper),os[j]? = some o→D j=true→ ∀e∈o.after,Region.binds .any e=true→D e.on=true)
 (hi: ∀(o:Oper),os[i]? = some o→ ∀e∈o.after,Region.binds .any e=true→D e.on=true) (h:z6 os i j=true):D j=true:=
 LB a hi _ j (any_beq.1 h)
def ux (os:List Oper) (a0:Act) (a:List Nat) (b:Act):Prop:= ∀t,(∀i,writer os t=some i→i∉a)→b.tmps[t]? = a0.tmps[t]?
def so (P:Program) (n:Nat) (os:List Oper) (a0:Act) (D:Nat→Bool) (HBa:World→Prop) (a:List Nat) (b:Act):Prop:=
 ∀q∈a,D q=false→ ∃(o:Oper) (f:Fr) (c:Act) (d:Nat) (v:Value),os[q]? = some o∧o.dst=some d∧hr n f c∧b.tmps[d]? = some v∧
  (∀w,HBa w→az P n os.toArray (oh ((d,v)::f) (λx=>x=w)) [o] f (λx=>x=w))∧
  ∀t∈o.looksAt os.toArray,c.tmps[t]? = (match writer os t with
   | some i=>if ko a i q=true then b.tmps[t]? else a0.tmps[t]?
   | none=>a0.tmps[t]?)
theorem Fp {P:Program} {n:Nat} {os:List Oper} {a0:Act} {D:Nat→Bool} {HBa HB:World→Prop} {K:Fr→Prop} (A: ∀(i:Nat) (o:Oper) (d:Nat),os[i]? = some o→o.dst=some d→d<n∧writer os d=some i) (U: ∀w,HBa w→HB w):
 ∀(c a:List Nat) (b:Act) (f:Fr),(a++c).Nodup→(∀q∈c,q<os.length)→hr n f b→ux os a0 a b→so P n os a0 D HBa a b→gt P n os.toArray HB K (c.map (λq=>os.getD q default)) f→
 ∃m B,hr n B m∧K B∧ux os a0 (a++c) m∧so P n os a0 D HBa (a++c) m∧ ∀t,(∀i,writer os t=some i→i∉c)→m.tmps[t]? = b.tmps[t]? :=by
 intro c;induction c with
 | nil=>intro a b f _ _ l r s F;exact⟨b,f,l,F,by simpa using r,by simpa using s,λ_ _=>rfl⟩
 | cons q c V=>
  intro a b f G L l r s F;obtain⟨d,v,ak,W,X⟩:=F;have Y:=L q av
  have M:os[q]? = some (os.getD q default):=by simp[List.getD,bE Y]
  obtain⟨Z,H⟩:=A q _ d M ak;have x:q∉a:=λhm=>by
   rw[fK] at G
   exact G.2.2 q hm q av rfl
  let k:Act:=b.put (some d) v
  have p: ∀t,t≠d→k.tmps[t]? = b.tmps[t]? :=λt g=>by
   show (b.tmps.setIfInBounds d v)[t]? = _
   rw[tT (λe=>g e.symm)]
  have N:k.tmps[d]? = some v:=by
   show (b.tmps.setIfInBounds d v)[d]? = _
   simp[l.size,Z]
  have I: ∀t i,writer os t=some i→i≠q→t≠d:=λt i O s e=>by
   subst e;rw[H] at O;exact s (od O).symm
  have Za:hr n ((d,v)::f) k:=by
   refine⟨by simp[k,Act.put,l.size],by simpa [k,Act.put] using l.pn,λt u y=>?_⟩;simp only[look] at y
   cases C:Nat.beq d t with
   | true=>
    rw[C] at y
    have Zb:=fV C
    subst Zb;rw[N];exact y
   | false=>
    rw[C] at y
    rw[p t (λe=>ud C e.symm)];exact l.val t u y
  have Zc:ux os a0 (a++[q]) k:=by
   intro t g;have Zd:t≠d:=λe=>by subst e;exact g q H av
   rw[p t Zd];exact r t λi hi hm=>g i hi (by simp[hm])
  have Ze:so P n os a0 D HBa (a++[q]) k:=by
   intro h J Zf;rcases cX.1 J with hm | hm
   obtain⟨o,Zg,Zh,E,v0,Q,R,Zi,Zj,Zk,Zl⟩:=s h hm Zf;have Zm:h≠q:=λe=>x (e▸hm)
   refine⟨o,Zg,Zh,E,v0,Q,R,Zi,?_,Zk,λt g=>?_⟩;rw[p E (I E h (A h o E Q R).2 Zm)];exact Zj
   rw[Zl t g];cases z:writer os t with
   | none=>rfl
   | some i=>
    simp only;rw[z8 _ hm];by_cases j:ko a i h=true
    rw[ax j,ax j,p t (I t i z (λe=>x (e▸Fl j)))];rw[ag j,ag j]
   obtain rfl:h=q:=by simpa using hm
   refine⟨_,f,b,d,v,M,ak,l,N,λw A=>W w (U w A),λt g=>?_⟩;cases z:writer os t with
   | none=>exact r t (by simp[z])
   | some i=>
    simp only;by_cases j:ko (a++[h]) i h=true
    have hm:=(z_ [] x).1 j
    rw[ax j,p t (I t i z (λe=>x (e▸hm)))];rw[ag j];refine r t λZo S hm=>j ((z_ [] x).2 ?_)
    rw[z] at S
    rw[od S];exact hm
  have T:a++[q]++c=a++q::c:=by simp
  obtain⟨m,B,hb,e_,qK,ul,Zn⟩:=V (a++[q]) k ((d,v)::f) (by rw[T];exact G) (λh J=>L h (by simp[J])) Za Zc Ze X;rw[T] at qK ul
  refine⟨m,B,hb,e_,qK,ul,λt g=>?_⟩;rw[Zn t (λi hi hm=>g i hi (by simp[hm]))];exact p t (λe=>by subst e;exact g q H av)
theorem OV (b:List (List (Nat × Bool × List Nat))): ∀{i:Nat},b.any (qU i)=true→ ∃s∈k1 b,s.1=i:=by
 induction b with
 | nil=>intro i h;simp at h
 | cons p r a=>
  intro i h;cases p with
  | nil=>
   have d:r.any (qU i)=true:=by simpa [qU] using h
   exact a d
  | cons s p=>
   simp only[List.any_cons,qU,mh] at h
   unfold k1;cases c:r.any (qU s.1) with
   | true=>
    rcases h with h | h
    rw[fV h] at c;exact a c
    exact a h
   | false=>
    rcases h with h | h
    exact⟨s,by simp,fV h⟩;obtain⟨e,f,g⟩:=a h;exact⟨e,by simp[f],g⟩
def pL (os:List Oper) (a:List Nat) (i:Nat):Prop:= ∃o,os[i]? = some o∧ ∀t∈o.looksAt os.toArray,∀j,writer os t=some j→(j<i→ko a j i=true)∧(¬j<i→ko a j i=false)
theorem Aa {os:List Oper} {d:List Nat} {i:Nat} (h:wU os d i=true):pL os d i:=by
 unfold wU at h
 cases b:os[i]? with
 | none=>rw[b] at h;cases h
 | some o=>
  rw[b] at h
  refine⟨o,b,λt e j f=>?_⟩;have a:=iQ.1 h t e
  rw[f] at a
  simp only at a
  refine⟨λc=>?_,λc=>?_⟩;rw[show Nat.blt j i=true from Nat.ble_eq_true_of_le c] at a;exact a
  have:Nat.blt j i=false:=by
   cases g:Nat.blt j i with
   | false=>rfl
   | true=>exact absurd (dT g) c
  rw[this] at a
  simpa using a
theorem pL.ow {os:List Oper} {a:List Nat} {i:Nat} (h:pL os a i) (hi:i∈a) (x:List Nat):pL os (a++x) i:=by
 obtain⟨o,b,h⟩:=h;exact⟨o,b,λt c j d=>by rw[z8 x hi];exact h t c j d⟩
theorem ew {P:Program} {n:Nat} {Q:cl} {l:Fr} {H:World→Prop} {id:Nat} {os:List Oper} (b8:List Nat) (ZJ:Nat) (ZK:List (List (Nat × Bool × List Nat))) (HB:World→Prop) (Zd:P.follows .mixedOrders=true) (ZL:z7 n b8 ZJ ZK os=true)
 (Zaa: ∀w,H w→H w.drew) (Zbc: ∀w,H w→HB w)
 (h:gt P n os.toArray HB (λZp=>i8 P n os Q ZJ ZK HB Zp H) (b8.map (λq=>os.getD q default)) l):dc P n (.region id os.toArray true) Q l H:=by
 intro w Zy a ZM;unfold z7 at ZL
 simp only[dY] at ZL
 obtain⟨⟨⟨Zbd,Zbe⟩,Zbf⟩,Zbg⟩:=ZL;have ZN: ∀(i:Nat) (o:Oper),os[i]? = some o→(∀d,o.dst=some d→d<n∧writer os d=some i)∧(∀t∈o.looksAt os.toArray,zc os i o t=true)∧
  (∀e∈o.after,Region.binds .any e=true→e.on<i)∧(∀cs b,o.op≠ .select cs b):=by
  intro i o G;have ZO:=(cU.1 G).1
  have:=iQ.1 Zbd i (by simpa using ZO)
  rw[G] at this
  unfold Fk at this
  simp only[dY] at this
  obtain⟨⟨⟨F,Z⟩,Zbh⟩,Zab⟩:=this;refine⟨λd ak=>?_,λt p=>iQ.1 Z t p,λe N I=>?_,λcs b A=>by rw[A] at Zab;cases Zab⟩;rw[ak] at F
  simp only[dY] at F
  refine⟨dT F.1,?_⟩;cases Zz:writer os d with
  | none=>rw[Zz] at F;cases F.2
  | some j=>rw[Zz] at F;rw[fV F.2]
  have:=Array.all_eq_true_iff_forall_mem.1 Zbh e N
  simp only[mh,pj,I] at this
  rcases this with this | this
  cases this
  exact dT this
 have Zq: ∀(i:Nat) (o:Oper) (d:Nat),os[i]? = some o→o.dst=some d→d<n∧writer os d=some i:=λi o d G ak=>(ZN i o G).1 d ak
 have ZP: ∀t j,writer os t=some j→ ∃o,os[j]? = some o∧o.dst=some t:=by
  intro t j Zq;obtain⟨x,E,ai⟩:=Lp Zq;refine⟨x,E,?_⟩;cases ak:x.dst with
  | none=>rw[ak] at ai;cases ai
  | some d=>rw[ak] at ai;rw[fV ai]
 have Zac: ∀i∈b8,pL os b8 i:=λi hi=>Aa (iQ.1 Zbf i hi)
 have Zbi: ∀q∈b8,q<os.length:=λq L=>let ⟨_,G,_⟩:=Zac q L;(cU.1 G).1
 have Zbj:so P n os a (λ_=>false) HB [] a:=λq L=>by simp at L
 obtain⟨Zbk,Zbl,Zbm,Zbn,Zad,Zae,Zdb⟩:=Fp (D:=λ_=>false) (a0:=a) (HBa:=HB) Zq (λ_ h=>h) b8 [] a l (by simpa using wV _ Zbe) Zbi ZM (λt _=>rfl) Zbj h;simp only[qw] at Zad Zae
 let S: (Nat→Bool)→Act→World→Prop:=λD B U=> ∃(k:Nat) (pre:List (Nat × Bool × List Nat)) (V:List (List (Nat × Bool × List Nat))) (b:Act) (HBa:World→Prop) (l2:Fr),sn os b8 k pre V=true∧(∀i∈b8++eS pre,pL os (b8++eS pre) i)∧
  B.tmps.size=n∧B.defers=[]∧hr n l2 b∧
  (∀i,D i=true→i∈b8++eS pre)∧(∀s∈pre,D s.1=true)∧
  (∀(j:Nat) (o:Oper),os[j]? = some o→D j=true→ ∀e∈o.after,Region.binds .any e=true→D e.on=true)∧
  (∀t,B.tmps[t]? = (match writer os t with
   | some i=>if D i=true then b.tmps[t]? else a.tmps[t]?
   | none=>a.tmps[t]?))∧
  ux os a (b8++eS pre) b∧so P n os a D HBa (b8++eS pre) b∧HBa U∧i8 P n os Q k V HBa l2 (λx=>x=U)
 refine wp_region_any Zd ?_;refine Lo (P:=P) (ops:=os.toArray) (Q:=rU n Q) S ?_ ?_ ?_ _ _ a _ av av ?_;rintro D i o B U G Zaf ZQ ⟨k,pre,V,b,HBa,l2,W,ZA,Zj,ZB,Zr,Zs,ZC,Zt,Zk,Z,Zl,ZR,ZD⟩;have X:os[i]? = some o:=by simpa using G
 have Zag:=(cU.1 X).1
 obtain⟨ZE,Zbo,Zdc,Zah⟩:=ZN i o X;have Zai: ∀(j:Nat) (o':Oper),os[j]? = some o'→(D j || j == i)=true→ ∀e∈o'.after,Region.binds .any e=true→(D e.on || e.on == i)=true:=by
  intro y o' Za M e N Zm;simp only[mh,beq_iff_eq] at M ⊢
  rcases M with M | rfl
  exact .inl (Zt y o' Za M e N Zm);rw[X] at Za
  simp only[dz] at Za
  subst Za;exact .inl (ZQ e N Zm)
 have Ab: ∀(ZF:Oper),os[i]? = some ZF→ ∀e∈ZF.after,Region.binds .any e=true→D e.on=true:=by
  intro ZF Za;rw[X] at Za
  simp only[dz] at Za
  subst Za;exact ZQ
 have Zaj: ∀t∈o.looksAt os.toArray,B.tmps[t]? = (match writer os t with
  | some u=>if u<i then b.tmps[t]? else a.tmps[t]?
  | none=>a.tmps[t]?):=by
  intro t p;have A:=Zbo t p
  rw[Zk t];unfold zc at A
  cases z:writer os t with
  | none=>rfl
  | some y=>
   rw[z] at A
   simp only at A ⊢
   cases Y:Nat.blt y i with
   | true=>
    rw[Y] at A
    have O:y<i:=dT Y
    obtain⟨e,N,Zm,Zbp⟩:=wk A;have M:=ZQ e N Zm
    rw[Zbp] at M
    rw[ax M,ax O]
   | false=>
    rw[Y] at A
    have Zbq: ¬y<i:=λZO=>by
     have:Nat.blt y i=true:=Nat.ble_eq_true_of_le ZO
     rw[this] at Y;cases Y
    rw[ag Zbq];cases Zak:Nat.blt i y with
    | true=>
     rw[Zak] at A
     cases ZS:os[y]? with
     | none=>rw[ZS] at A;cases A
     | some Zbr=>
      rw[ZS] at A
      obtain⟨e,N,Zm,Zbs⟩:=wk A;have M: ¬D y=true:=λM=>by
       have:=Zt y Zbr ZS M e N Zm
       rw[Zbs,Zaf] at this;cases this
      rw[ag M]
    | false=>rw[Zak] at A;cases A
 unfold wpOp;rw[G];simp only;by_cases Ze:i∈b8++eS pre
 ·
  obtain⟨ZF,f,Zf,d,v,K,ak,Zal,ZT,Zbt,ZU⟩:=Zl i Ze Zaf;rw[X] at K
  simp only[dz] at K
  subst K;obtain⟨Zam,Zz⟩:=ZE d ak;obtain⟨o',K,ZV⟩:=ZA i Ze;rw[X] at K
  simp only[dz] at K
  subst K;have Zu: ∀t∈o.looksAt os.toArray,Zf.tmps[t]? = B.tmps[t]? :=by
   intro t p;rw[ZU t p,Zaj t p];cases z:writer os t with
   | none=>rfl
   | some y=>
    simp only;have I:=ZV t p y z
    by_cases O:y<i
    rw[ax (I.1 O),ax O];rw[ag (by rw[I.2 O];simp),ag O]
  have ZW: ∀x∈o.op.operands,Zf.eval x=B.eval x:=by
   intro x E;cases x with
   | tmp t=>
    have p:t∈o.looksAt os.toArray:=by
     unfold Oper.looksAt;refine n7 _ (List.mem_filterMap.2 ⟨.tmp t,by simpa using E,rfl⟩)
    simp only[Act.eval,jK,Zu t p]
   | _=>rfl
  have ZX:=execOp_congr o Zah ZW
  have ZG:Region.wanted o (yielded os.toArray Zf.tmps)=Region.wanted o (yielded os.toArray B.tmps):=by
   unfold Region.wanted;cases ZY:o.guard with
   | none=>rfl
   | some ZZ=>
    obtain⟨y,Zbu⟩:=ZZ;simp only;congr 1
    unfold yielded;cases Z0: (os.toArray[y]?).bind (·.dst) with
    | none=>rfl
    | some t=>
     have p:t∈o.looksAt os.toArray:=by
      unfold Oper.looksAt;refine List.mem_append_right _ ?_;simp only[ZY,Z0];simp
     simp only[Option.bind_some,Zu t p]
  have J:=Zbt U ZR U rfl Zf Zal
  have Zv: ∀C w',rU n (oh ((d,v)::f) (λx=>x=U)) .normal (Zf.put o.dst C) w'→S (λj=>D j || j == i) (B.put o.dst C) w':=by
   rintro C w' ⟨l1,Zbv,Zbw,rfl⟩;have Zbx:C=v:=by
    have F:=Zbv.val d v (Zbw d v (by simp[look]))
    rw[ak] at F
    simp only[Act.put] at F
    rw[Array.getElem?_setIfInBounds] at F
    simp[Zal.size,Zam] at F
    exact F
   subst Zbx;refine⟨k,pre,V,b,HBa,l2,W,ZA,by rw[ak];simp[Act.put,Zj],by rw[ak];exact ZB,Zr,λu g=>?_,λs A=>by simp[ZC s A],Zai,λt=>?_,Z,λq L Zb=>?_,ZR,ZD⟩;simp only[mh,beq_iff_eq] at g
   rcases g with g | rfl
   exact Zs u g;exact Ze;rw[ak];simp only[Act.put];by_cases Z1:d=t
   subst Z1;rw[Zz];simp[Zj,Zam,ZT]
   rw[tT Z1,Zk t];cases z:writer os t with
   | none=>rfl
   | some y=>
    have O:y≠i:=by
     rintro rfl;obtain⟨x,E,Zn⟩:=ZP t y z;rw[X] at E
     simp only[dz] at E
     subst E;rw[ak] at Zn
     simp only[dz] at Zn
     exact Z1 Zn
    have: (y == i)=false:=by simpa using O
    simp[this]
   simp only[Bool.or_eq_false_iff] at Zb
   exact Zl q L Zb.1
  unfold wpList at J
  split
  rename_i Zg;rw[ZG,ax Zg] at J
  rcases J with J | ⟨_,a0,Zh,l0,_,T⟩
  refine .inl (DA ZX (λC w' Zby=>Zv C w' Zby) ?_ ?_ ?_ J);rintro Zbz v0 Zh ⟨l0,Z2,_⟩;have:=Z2.pn
  rw[ak] at this
  simp[Act.put] at this
  rintro c Zh ⟨l0,_,T⟩;exact T.elim;rintro⟨a0,Zh,l0,_,T⟩;exact T.elim;exact T.elim;rename_i Zg;rw[ZG,ag Zg] at J
  exact Zv _ _ J
 ·
  cases k with
  | zero=>
   unfold sn at W
   exact absurd (any_beq.1 (iQ.1 W i (by simpa using Zag))) Ze
  | succ k=>
  unfold sn at W
  simp only[dY] at W
  obtain⟨⟨_,Zca⟩,Zo⟩:=W;obtain⟨s,Zan,Zcb⟩ : ∃s∈k1 V,s.1=i:=by
   have R:=iQ.1 Zca i (by simpa using Zag)
   simp only[mh] at R
   rcases R with (R | R) | R
   exact absurd (any_beq.1 R) Ze;exact OV V R;exfalso
   obtain⟨m,_,ZH⟩:=List.any_eq_true.1 R;simp only[dY,pj] at ZH
   have Zcc:=Fo Zt Ab ZH.2
   rw[any_beq.2 (Zs m Zcc)] at ZH
   exact absurd ZH.1 av
  subst Zcb;have Zo:=iQ.1 Zo s Zan
  simp only[dY] at Zo
  obtain⟨⟨⟨Z3,Z4⟩,Z5⟩,Zcd⟩:=Zo;have Zi:b8++eS (pre++[s])=(b8++eS pre)++[s.1]++s.2.2:=by
   rw[Fm];simp[eS]
  have Zao: ((b8++eS pre)++[s.1]++s.2.2).Nodup:=by rw[←Zi];exact wV _ Z3
  have ZI: ∀i∈s.1::s.2.2,pL os (b8++eS (pre++[s])) i:=λi hi=>Aa (iQ.1 Z4 i hi)
  have Zce: ∀i∈b8++eS (pre++[s]),pL os (b8++eS (pre++[s])) i:=by
   intro u g;rw[Zi] at g
   rcases cX.1 g with g | g
   rcases cX.1 g with g | g
   rw[Zi,e0];exact (ZA u g).ow g _;exact ZI u (by simp at g;simp[g]);exact ZI u (by simp[g])
  obtain⟨o',K,ZV⟩:=ZI s.1 av;rw[X] at K
  simp only[dz] at K
  subst K;have Zcf:os.getD s.1 default=o:=by simp[List.getD,X]
  have Zap:=ZD s Zan
  rw[Zcf] at Zap
  have Zu: ∀t∈o.looksAt os.toArray,b.tmps[t]? = B.tmps[t]? :=by
   intro t p;rw[Zaj t p];cases z:writer os t with
   | none=>exact Z t (by simp[z])
   | some y=>
    simp only;have I:=ZV t p y z
    rw[Zi,e0,rR] at I
    by_cases O:y<s.1
    rw[ax O];rw[ag O];refine Z t λu g Zd=>?_
    rw[z] at g
    obtain rfl:=od g;have:=I.2 O
    rw[(z_ _ Ze).2 Zd] at this
    cases this
  have ZW: ∀x∈o.op.operands,b.eval x=B.eval x:=by
   intro x E;cases x with
   | tmp t=>
    have p:t∈o.looksAt os.toArray:=by
     unfold Oper.looksAt;refine n7 _ (List.mem_filterMap.2 ⟨.tmp t,by simpa using E,rfl⟩)
    simp only[Act.eval,jK,Zu t p]
   | _=>rfl
  have ZX:=execOp_congr o Zah ZW
  have ZG:Region.wanted o (yielded os.toArray b.tmps)=Region.wanted o (yielded os.toArray B.tmps):=by
   unfold Region.wanted;cases ZY:o.guard with
   | none=>rfl
   | some ZZ=>
    obtain⟨y,Zbu⟩:=ZZ;simp only;congr 1
    unfold yielded;cases Z0: (os.toArray[y]?).bind (·.dst) with
    | none=>rfl
    | some t=>
     have p:t∈o.looksAt os.toArray:=by
      unfold Oper.looksAt;refine List.mem_append_right _ ?_;simp only[ZY,Z0];simp
     simp only[Option.bind_some,Zu t p]
  have Zcg:s.2.1=true→ ∀q∈b8++eS pre,D q=true:=by
   intro Zc q L;rw[Zc] at Z5
   simp only[Bool.not_true,Bool.false_or] at Z5
   have:=iQ.1 Z5 q L
   simp only[mh] at this
   rcases this with R | R
   obtain⟨r,Zch,N⟩:=List.any_eq_true.1 R;rw[←fV N];exact ZC r Zch;exact Fo Zt Ab R
  have Zv: ∀C w',rU n (qL (λl' w'=>(s.2.1=true∨HBa w')∧ ∃HB:World→Prop,HB w'∧gt P n os.toArray HB (λZp=>i8 P n os Q k (k2 s.1 V) (λx=>(s.2.1=true∨HBa x)∧HB x) Zp (λx=>x=w')) (s.2.2.map (λq=>os.getD q default)) l')) .normal (b.put o.dst C) w'→
   S (λj=>D j || j == s.1) (B.put o.dst C) w':=by
   rintro C w' ⟨Zdd,Zci,Zcj,Zaq,Zck,Zcl⟩;have Y: ∀t,writer os t≠some s.1→(b.put o.dst C).tmps[t]? = b.tmps[t]? :=by
    intro t p;cases ak:o.dst with
    | none=>rfl
    | some d=>
     simp only[Act.put];refine tT λe=>?_
     subst e;exact p (ZE d ak).2
   have Zar: ∀t,writer os t≠some s.1→(B.put o.dst C).tmps[t]? = B.tmps[t]? :=by
    intro t p;cases ak:o.dst with
    | none=>rfl
    | some d=>
     simp only[Act.put];refine tT λe=>?_
     subst e;exact p (ZE d ak).2
   have Zcm: ∀t,writer os t=some s.1→(B.put o.dst C).tmps[t]? = (b.put o.dst C).tmps[t]? :=by
    intro t p;obtain⟨x,E,Zn⟩:=ZP t s.1 p;rw[X] at E
    simp only[dz] at E
    subst E;have Zcn:=(ZE t Zn).1
    rw[Zn];simp[Act.put,Zj,Zr.size,Zcn]
   have Zco:ux os a ((b8++eS pre)++[s.1]) (b.put o.dst C):=by
    intro t p;rw[Y t (λe=>p s.1 e av)];exact Z t λu g Zd=>p u g (by simp only[cX];exact .inl (cX.1 Zd))
   let Z6:World→Prop:=λx=>(s.2.1=true∨HBa x)∧Zaq x
   have Zcp:so P n os a (λj=>D j || j == s.1) Z6 ((b8++eS pre)++[s.1]) (b.put o.dst C):=by
    intro q L Zb;simp only[Bool.or_eq_false_iff] at Zb
    have Zas:q≠s.1:=by simpa using Zb.2
    have Z7:q∈b8++eS pre:=by
     rcases cX.1 L with h | h
     exact h;exact absurd (by simpa using h) Zas
    obtain⟨Zat,f,Zf,d,v,K,Zau,Zcq,Zcr,Zcs,Zct⟩:=Zl q Z7 Zb.1;refine⟨Zat,f,Zf,d,v,K,Zau,Zcq,?_,λw Zy=>?_,λt p=>?_⟩;rw[Y d (λe=>by rw[(Zq q Zat d K Zau).2] at e;exact Zas (od e))];exact Zcr
    rcases Zy.1 with Zc | Zc
    have:=Zcg Zc q Z7
    rw[Zb.1] at this;cases this
    exact Zcs w Zc;rw[Zct t p];cases z:writer os t with
    | none=>rfl
    | some u=>
     simp only;rw[z8 _ Z7];by_cases I:ko (b8++eS pre) u q=true
     rw[ax I,ax I,Y t (λe=>by rw[z] at e;exact Ze (od e▸Fl I))];rw[ag I,ag I]
   obtain⟨Zav,Zp,hb,e_,qK,ul,Zcu⟩:=Fp (D:=λj=>D j || j == s.1) (a0:=a) (HBa:=Z6) (HB:=Zaq) Zq (λ_ h=>h.2) s.2.2 _ _ _ Zao (λq L=>let ⟨_,G,_⟩:=ZI q (by simp[L]);(cU.1 G).1) Zci Zco Zcp Zcl;have Zaw: ∀u,(D u || u == s.1)=true→u∈(b8++eS pre)++[s.1]:=by
    intro u g;simp only[mh,beq_iff_eq] at g
    rcases g with g | rfl
    exact n7 _ (Zs u g);exact List.mem_append_right _ av
   refine⟨k,pre++[s],k2 s.1 V,Zav,Z6,Zp,Zcd,Zce,by cases o.dst <;> simp[Act.put,Zj],by cases o.dst <;> simp[Act.put,ZB],hb,λu g=>?_,λZax Zcv=>?_,Zai,λt=>?_,?_,?_,⟨Zcj,Zck⟩,e_⟩;rw[Zi];exact n7 _ (Zaw u g);rcases cX.1 Zcv with h | h
   simp[ZC Zax h]
   obtain rfl:Zax=s:=by simpa using h
   simp
   cases z:writer os t with
   | none=>
    simp only;rw[Zar t (by rw[z];simp),Zk t,z]
   | some u=>
    simp only;have Zay: (D u || u == s.1)=true→Zav.tmps[t]? = (b.put o.dst C).tmps[t]? :=by
     intro g;refine Zcu t λZde Zaz Zd=>?_
     rw[z] at Zaz
     obtain rfl:=od Zaz;exact (fK.1 Zao).2.2 _ (Zaw u g) _ Zd rfl
    by_cases Z8:u=s.1
    subst Z8;rw[Zcm t z,ax av,Zay av];have Zw:writer os t≠some s.1:=by rw[z];exact λe=>Z8 (od e)
    have ZU: (u == s.1)=false:=by simpa using Z8
    rw[Zar t Zw,Zk t,z];simp only[ZU,Bool.or_false];by_cases Zx:D u=true
    rw[ax Zx,ax Zx,Zay (by simp[Zx]),Y t Zw];rw[ag Zx,ag Zx]
   rw[Zi];exact qK
   rw[Zi];exact ul
  have J:wpList P os.toArray _ [o] b U:=Zap U rfl b Zr
  unfold wpList at J
  rw[ZG] at J
  split at J
  rename_i Zg;rw[ax Zg];rcases J with J | ⟨_,a0,Zh,l0,_,T⟩
  refine .inl (DA ZX (λC w' Zcw=>Zv C w' Zcw) ?_ ?_ ?_ J);rintro Zbz v0 Zh ⟨l0,Z2,_⟩;have:=Z2.pn
  cases ak:o.dst <;> rw[ak] at this <;> simp[Act.put] at this
  rintro c Zh ⟨l0,_,T⟩;exact T.elim;rintro⟨a0,Zh,l0,_,T⟩;exact T.elim;exact T.elim;rename_i Zg;rw[ag Zg];exact Zv _ _ J
 rintro D B U Zcx ⟨k,pre,V,b,HBa,l2,W,ZA,Zj,ZB,Zr,Zs,ZC,Zt,Zk,Z,Zl,ZR,ZD⟩;have Zba: ∀i,i<os.length→D i=true:=λi hi=>Zcx i (by simpa using hi)
 have Zcy: ∀(t:Nat),B.tmps[t]? = b.tmps[t]? :=by
  intro t;rw[Zk t];cases z:writer os t with
  | none=>exact (Z t (by simp[z])).symm
  | some i=>
   obtain⟨x,E,_⟩:=ZP t i z;simp only;rw[ax (Zba i (cU.1 E).1)]
 have Zcz:hr n l2 B:=⟨Zj,ZB,λt v ZT=>by rw[Zcy t];exact Zr.val t v ZT⟩
 cases k with
 | zero=>exact⟨l2,Zcz,ZD U rfl⟩
 | succ k=>
  exfalso
  unfold sn at W
  simp only[dY] at W
  obtain⟨⟨Zw,_⟩,Zo⟩:=W;cases Zc:k1 V with
  | nil=>rw[Zc] at Zw;cases Zw
  | cons s r=>
   have F:=iQ.1 Zo s (by rw[Zc];simp)
   simp only[dY] at F
   obtain⟨⟨⟨Z3,Z4⟩,_⟩,_⟩:=F;obtain⟨o,G,_⟩:=Aa (iQ.1 Z4 s.1 av);have Zda:=Zs s.1 (Zba _ (cU.1 G).1)
   have Zbb:=wV _ Z3
   rw[Fm,←e0,fK] at Zbb
   exact Zbb.2.2 _ Zda s.1 (by simp[eS]) rfl
 intro i o G e N I;obtain⟨_,_,Zl,_⟩:=ZN i o (by simpa using G);exact Zl e N I;have Z9: ∀j,(Array.replicate os.toArray.size false).getD j false=false:=by
  intro j;simp only[jK,Array.getElem?_replicate];split <;> rfl
 refine⟨ZJ,[],ZK,Zbk,HB,Zbl,Zbg,by simpa [eS] using Zac,ZM.size,ZM.pn,Zbm,λi hi=>absurd ((Z9 i).symm.trans hi) av,λs A=>by simp at A,λj o _ M=>absurd ((Z9 j).symm.trans M) av,λt=>?_,by simpa [eS] using Zad,?_,Zbc _ (Zaa w Zy),Fj _ Zbn (λx E=>E▸Zaa w Zy)⟩;cases writer os t with
 | none=>rfl
 | some i=>simp only[Z9];rfl
 rw[show b8++eS []=b8 by simp[eS]];intro q L Zb;exact Zae q L rfl
section
theorem sp {n m:Nat} (h:m<2 ^ n): (BitVec.ofInt n (m:Int)).toNat=m:=by
 rw[BitVec.ofInt_natCast,BitVec.toNat_ofNat,Nat.mod_eq_of_lt h]
theorem nh {z:Int} (a:0≤z) (b:z<256):IntKind.u8.wrap z=z:=by simp[IntKind.wrap,IntKind.bits,IntKind.signed];omega
theorem wW {z:Int} (a:0≤z) (b:z<4294967296):IntKind.u32.wrap z=z:=by simp[IntKind.wrap,IntKind.bits,IntKind.signed];omega
theorem uy {z:Int} (a: -2147483648≤z) (b:z<2147483648):IntKind.i32.wrap z=z:=by simp[IntKind.wrap,IntKind.bits,IntKind.signed];omega
theorem and_eq {k:IntKind} {a b:Int} {m n:Nat} {r:Int} (c:a=m) (d:b=n) (e:m<2 ^ k.bits) (f:n<2 ^ k.bits) (g:k.wrap ((m &&& n:Nat):Int)=r):k.wrap ((BitVec.ofInt k.bits a &&& BitVec.ofInt k.bits b).toNat:Int)=r:=by
 subst c d;rw[BitVec.toNat_and,sp e,sp f,g]
theorem or_eq {k:IntKind} {a b:Int} {m n:Nat} {r:Int} (c:a=m) (d:b=n) (e:m<2 ^ k.bits) (f:n<2 ^ k.bits) (g:k.wrap ((m ||| n:Nat):Int)=r):k.wrap ((BitVec.ofInt k.bits a ||| BitVec.ofInt k.bits b).toNat:Int)=r:=by
 subst c d;rw[BitVec.toNat_or,sp e,sp f,g]
theorem Fq {k:IntKind} {a b:Int} {m n:Nat} {r:Int} (c:a=m) (d:b=n) (e:m<2 ^ k.bits) (f:n<2 ^ k.bits) (g:k.wrap ((m &&& (2 ^ k.bits - 1 - n):Nat):Int)=r):k.wrap ((BitVec.ofInt k.bits a &&& ~~~ BitVec.ofInt k.bits b).toNat:Int)=r:=by
 subst c d;rw[BitVec.toNat_and,BitVec.toNat_not,sp e,sp f,g]
section
variable {P:Program} {n:Nat} {ops:Array Oper} {Q:cl} {rest:List Oper} {l:Fr} {H:World→Prop} {d:Nat} {ty:TypeId} {pos:String} {a6:Array Edge} {cn du:TypeId} {x y:Operand} {k aH:IntKind} {a b r:Int}
theorem qV (ak:Nat.blt d n=true) (f:a_ l x=some (.int k a)) (g:a_ l y=some (.int k b)) (i:k.wrap ((BitVec.ofInt k.bits a &&& BitVec.ofInt k.bits b).toNat:Int)=r)
 (h:az P n ops Q rest ((d,.int k r)::l) H):az P n ops Q (⟨some d,.binOp .and cn x y du,ty,pos,a6,none⟩::rest) l H:=
 da _ ak (λj w c=>by
  have e:binOp .and cn (.int k a) (.int k b)=pure (.int k r):=by
   rw[binOp_and,←i];rfl
  simp only[execOp,c x _ f,c y _ g,eqGuard,e];simp[Sem.run_pure,Result.andThen]) h
theorem mz (ak:Nat.blt d n=true) (f:a_ l x=some (.int k a)) (g:a_ l y=some (.int k b)) (i:k.wrap ((BitVec.ofInt k.bits a ||| BitVec.ofInt k.bits b).toNat:Int)=r)
 (h:az P n ops Q rest ((d,.int k r)::l) H):az P n ops Q (⟨some d,.binOp .or cn x y du,ty,pos,a6,none⟩::rest) l H:=
 da _ ak (λj w c=>by
  have e:binOp .or cn (.int k a) (.int k b)=pure (.int k r):=by
   rw[binOp_or,←i];rfl
  simp only[execOp,c x _ f,c y _ g,eqGuard,e];simp[Sem.run_pure,Result.andThen]) h
theorem uz (ak:Nat.blt d n=true) (f:a_ l x=some (.int k a)) (g:a_ l y=some (.int k b)) (i:k.wrap ((BitVec.ofInt k.bits a &&& ~~~ BitVec.ofInt k.bits b).toNat:Int)=r)
 (h:az P n ops Q rest ((d,.int k r)::l) H):az P n ops Q (⟨some d,.binOp .andNot cn x y du,ty,pos,a6,none⟩::rest) l H:=
 da _ ak (λj w c=>by
  have e:binOp .andNot cn (.int k a) (.int k b)=pure (.int k r):=by
   rw[binOp_andNot,←i];rfl
  simp only[execOp,c x _ f,c y _ g,eqGuard,e];simp[Sem.run_pure,Result.andThen]) h
theorem pM (ak:Nat.blt d n=true) (e:a_ l x=some (.int k a)) (f:a_ l y=some (.int aH b)) (g:0≤b) (i:a/2 ^ min b.toNat k.bits=r)
 (h:az P n ops Q rest ((d,.int k r)::l) H):az P n ops Q (⟨some d,.binOp .shr cn x y du,ty,pos,a6,none⟩::rest) l H:=
 da _ ak (λj w c=>by simp[execOp,c x _ e,c y _ f,eqGuard,binOp,shift_shr_any k aH a b g,i]) h
theorem ox (ak:Nat.blt d n=true) (e:a_ l x=some (.int k a)) (f:a_ l y=some (.int aH b)) (j:0≤b) (g:k.wrap (a*2 ^ min b.toNat k.bits)=r)
 (h:az P n ops Q rest ((d,.int k r)::l) H):az P n ops Q (⟨some d,.binOp .shl cn x y du,ty,pos,a6,none⟩::rest) l H:=
 da _ ak (λm w c=>by
  have i: ¬b<0:=by omega
  simp[execOp,c x _ e,c y _ f,eqGuard,binOp,Op.shift,i,g]) h
def cy:bA UInt8:=⟨λc=>[.int .u8 (c.toNat:Int)],1,λ_=>rfl,λ_=>by repeat (first | exact aI.nil | refine aI.cons rfl ?_)⟩
theorem Fs: ∀(s:List UInt8) (a:ByteArray),(s.map (λc=>(c.toNat:Int))).foldl (λr n=>r.push (UInt8.ofNat n.toNat)) a=a++bs s
 | [],a=>by simp[bs,ByteArray.ext_iff]
 | c::s,a=>by
  rw[lB,rL,Fs s];have h:UInt8.ofNat (c.toNat:Int).toNat=c:=by simp
  rw[h];apply ByteArray.ext
  simp[bs,ByteArray.push]
theorem i_ {H:World→Prop} {src g e:TypeId} {F:Nat→Prop} {A:Option Addr} {m c:Nat} {s:List UInt8} (r:P.underlying src=some (.slice e)) (t:P.underlying e=some (.int .u8)) (v:P.underlying g=some .string) (ak:Nat.blt d n=true) (y:a_ l x=some (.slice A m c))
 (z: ∀w,H w→Rd cy w F A m c s)
 (h:az P n ops Q rest ((d,.string (bs s))::l) H):az P n ops Q (⟨some d,.convert src g x,ty,pos,a6,none⟩::rest) l H:=
 r2 _ ak (λG w B C=>by
  have o:=z w C
  have q:=o.len
  simp only[execOp,B x _ y];rw[Sem.run_bind,run_convert_bytes_string w src g e A m c r t v];by_cases D:m=0
  subst D;have:s=[]:=iR q
  subst this;cases A with
  | none=>simp[Conv.bytesToString,Result.andThen,Sem.run_pure];rfl
  | some a=>
   have i: (loadCells a 0).run P w= .ok (([]:List Int).map (Value.int .u8)).toArray w:=by
    have:=run_loadCellsFrom (P:=P) (w:=w) (p:=a) [] 0 #[] (λj u f=>by simp at f)
    simpa [loadCells] using this
   rw[run_bytesToString w a 0 c [] i];simp[Result.andThen,Sem.run_pure]
   rfl
  obtain⟨a,rfl,_,E⟩:=o.cells aa;have i: (loadCells a m).run P w= .ok ((s.map (λc=>(c.toNat:Int))).map (Value.int .u8)).toArray w:=by
   have:=run_loadCellsFrom (P:=P) (w:=w) (p:=a) (s.map (λc=>Value.int .u8 (c.toNat:Int))) 0 #[] (λj u f=>by
    rw[eJ] at f
    cases k:s[j]? with
    | none=>rw[k] at f;simp at f
    | some b=>
     rw[k] at f
     simp only[oc,dz] at f
     subst f;have:=E j b 0 (.int .u8 (b.toNat:Int)) k rfl
     simpa [cy,Addr.add] using this)
   rw[n4];simpa [loadCells,q,Function.comp_def] using this
  rw[run_bytesToString w a m c _ i,Fs];have:ByteArray.empty++bs s=bs s:=by apply ByteArray.ext;simp[bs]
  rw[this];simp[Result.andThen,Sem.run_pure]) h
theorem wX {args:List Operand} {c_:Array TypeId} {f:FuncId} {vs:List Value} {v:Value} {H:World→Prop} (ak:Nat.blt d n=true) (b:cH l args=some vs)
 (c: ∀w,H w→(callFunc f vs.toArray).run P w= .ok (.value v) w)
 (h:az P n ops Q rest ((d,v)::l) H):az P n ops Q (⟨some d,.call ⟨.value (.func f),args.toArray,c_⟩,ty,pos,a6,none⟩::rest) l H:=
 r2 v ak (λe w a g=>by
  have:=c w g
  have i:e (.func f)= .func (.func f) #[] #[]:=a (.func f) _ rfl
  simp[execOp,resolve,i,Deferred.ofValue,invoke,a.list _ _ b,this]) h
theorem ja {args:List Operand} {c_:Array TypeId} {f:FuncId} {vs:List Value} {v:Value} {H:World→Prop} (ak:Nat.blt d n=true) (b:ad P f) (c:cH l args=some vs)
 (g: ∀w,H w→Calls P f vs.toArray w (λe w'=>e= .returned v∧w'=w))
 (h:az P n ops Q rest ((d,v)::l) H):az P n ops Q (⟨some d,.call ⟨.value (.func f),args.toArray,c_⟩,ty,pos,a6,none⟩::rest) l H:=by
 refine gJ rfl ak b c λw a=>?_
 have:=g w a
 simp only[ir,iP];refine this.mono ?_;rintro e w' ⟨rfl,rfl⟩;exact⟨v,rfl,h.at a⟩
theorem sq {args:List Operand} {c_:Array TypeId} {f:FuncId} {vs:List Value} {v:Value} {H H':World→Prop} (ak:Nat.blt d n=true) (a:ad P f) (b:cH l args=some vs)
 (c: ∀w,H w→Calls P f vs.toArray w (λe w'=>e= .returned v∧H' w'))
 (h:az P n ops Q rest ((d,v)::l) H'):az P n ops Q (⟨some d,.call ⟨.value (.func f),args.toArray,c_⟩,ty,pos,a6,none⟩::rest) l H:=by
 refine gJ rfl ak a b λw g=>?_
 have:=c w g
 simp only[ir,iP];refine this.mono ?_;rintro e w' ⟨rfl,i⟩;exact⟨v,rfl,h.at i⟩
theorem Ac {hX:Operand} {args:List Operand} {c_:Array TypeId} {f:FuncId} {vs:List Value} {v:Value} {H H':World→Prop} {first cap:Array Value} (a:a_ l hX=some (.func (.func f) first cap)) (ak:Nat.blt d n=true) (b:ad P f) (c:cH l args=some vs)
 (g: ∀w,H w→Calls P f (first++vs.toArray++cap) w (λe w'=>e= .returned v∧H' w'))
 (h:az P n ops Q rest ((d,v)::l) H'):az P n ops Q (⟨some d,.call ⟨.value hX,args.toArray,c_⟩,ty,pos,a6,none⟩::rest) l H:=by
 refine gJ a ak b c λw i=>?_
 refine (g w i).mono ?_;rintro e w' ⟨rfl,j⟩;exact⟨v,rfl,h.at j⟩
end
theorem Ft {P:Program} {f:FuncId} {fn:Func} (a:P.funcs[f]? = some fn) (b: (fn.name == "runtime.NumGoroutine")=false) (d:fn.body.isNone=true) (e:Extern.findNext fn=none) (g:Extern.find fn=some Extern.BytealgIndexByte.indexByte) (s:List UInt8) (c:UInt8) (w:World):
 (callFunc f [Value.string (bs s),.int .u8 (c.toNat:Int)].toArray).run P w= .ok (.value (.int .i64 (Lib.indexByte s c))) w:=by
 rw[run_callFunc_extern a b d e g];have:=Lib.run_indexByteString (P:=P) (bs s) (c.toNat:Int) w
 rw[show [Value.string (bs s),Value.int .u8 (c.toNat:Int)].toArray= #[Value.string (bs s),Value.int .u8 (c.toNat:Int)] from rfl,this];have h: (c.toNat:Int).toNat.toUInt8=c:=by simp
 simp[Result.andThen,h]
end
section
section
variable {P:Program} {n:Nat} {ops:Array Oper} {Q:cl} {rest:List Oper} {l:Fr} {H:World→Prop} {d:Nat} {ty:TypeId} {pos:String} {a6:Array Edge} {x i:Operand} {k:IntKind} {j:Int}
theorem lH {t e len q:Nat} {z v:Value} {cs:List Value} (c:P.underlying t=some (.array len e)) (a:cJ P e z) (ak:Nat.blt d n=true) (f:a_ l x=some (.agg cs.toArray)) (hi:a_ l i=some (.int k j)) (g:j=(q:Int)) (m:q<len) (o:cs[q]? = some v)
 (h:az P n ops Q rest ((d,v)::l) H):az P n ops Q (⟨some d,.index t x i,ty,pos,a6,none⟩::rest) l H:=by
 subst g;obtain⟨A,p,r⟩:=a.e8;obtain⟨inf,s,B,u⟩:=a.inf;refine da _ ak (λC w b=>?_) h;have y: (Instr.index t (.agg cs.toArray) (.int k (q:Int))).run P w= .ok v w:=by
  simp[Instr.index,asIntOf,run_underlying c,m,run_sizeOf s,u,part,pp p,r,o]
 simp[execOp,b x _ f,b i _ hi,y]
end
end
end Go.Proofs.YtkeokgcdnfjaaaaGreatDoor.Mq
