/- part 45 of the proof -/
import Derived.Test.YtnfmgboendlmaaaGreatDoorQ44
import Derived.Test.YtnfmgboendlmaaaGreatDoorRows
import Derived.Lib.LaidTab
import Derived.Stop.LaidErr
import Derived.MakeChecks
import Derived.Look8
set_option linter.all false
namespace Go.Proofs.YtnfmgboendlmaaaGreatDoor.Mq
open RowKit Proofs.Tryz
variable {P:Program}{n d:Nat}{ops:Array Oper}{Q:cN}{rest:List Oper}{l:Fr}{ty:TypeId}{pos:String}{bf:Array Edge}
variable [Inhabited vP]{Z:Addr}{O:Int}{B:List Chunk}{F:List Nat}{R:List UInt8}{C:List Value}{Y j:List bq}{G N f u:Nat}{U:Nat->Prop}{o:Option Addr}{A:Program}{I:TypeId}{V:Value}{r:World}{E:bM}{M:ck}{S:cm}(k:World)(q X:Nat)(J:ck)(D:bM)
section
variable {H:World->Prop}
variable {cS et:TypeId}{x y:Operand}{xs ys:List Value}
def abA{r:Bool}(e:oz P cS)(f:Nat.blt d n=true)(g:bi l x=some (.agg xs.toArray))(h:bi l y=some (.agg ys.toArray))(i: ∀a,(Op.equalIn 10000 cS (.agg xs.toArray)<|.agg ys.toArray).run P a= .ok r a)
 (j:aM P n ops Q rest ((d,.bool r)::l) H):aM P n ops Q (⟨some d,.binOp .eql cS x y et,ty,pos,bf,none⟩::rest) l H:=by
 refine dB _ f (λm a b=>?_) j;have k:=run_eqGuard_agg (P:=P) a .eql cS x y xs.toArray ys.toArray e.guard
 have c:=run_eql_struct (P:=P) a cS xs.toArray ys.toArray
 rw[i a] at c
 simp only[execOp,b x _ g,b y _ h];simp only[Sem.run_bind,k,Result.andThen_ok,c,Sem.run_pure]
end
def abB(a:bA): ∀w,(Op.equalIn 10000 157 (.agg (jO a).toArray)<|.agg (jO a).toArray).run prog w= .ok true w:=by
 obtain⟨f,b,d⟩:=Af (P:=prog) 50 157 (jO a) (jO a) ak 9950;have e: ∀c,hZ prog 157 c= .agg c.toArray:=λc=>by
  have b:kD prog 157=true:=by kernel_rfl
  simp[hZ,b]
 rw[e,b rfl] at d
 exact d
structure Nc (p:ck):Prop where
 h:p.h=eA
 st:p.state=0
 eH:p.dec.eH=0
 fN:p.dec.fN=0
def uf(n a:Nat)(b:List bq)(c:bM):Prop:= ∃l,c.abs= { o4 n a 3 with am:=gt (hs n a 3) b fi 0 0 l }
def FB(a:D.use=false)(b: (eu q X D).pred k):ay 16 [ptr q] k (Pure (ptr D.am.g) k):=by
 have c:=pK k q X D b
 rwa [show firstT D=D.am from by unfold firstT;rw[a];rfl] at c
def abC(w:World)(c:Nat)(b:ck)(a:bM)(r:bc w (i8 c b a))(u:Nc b){G:Int}(O:cK c G 0 a){n H:Nat}{t:List bq}(Zf:1<=n/\n<=100)(P:t.length=n)(j:uf n H t a):ay 19 [ptr c,.agg [z0,z0].toArray] w
 (aX (λ_:bM=> .bool true) (i8 c b a) (i8 c b) (λi=>cK c G 0 i/\i.abs=a.abs) w):=by
 obtain⟨Q,j⟩:=j;have v:a.use=false:=a_ cA.use j
 have R:a.cr=eh.pO:=a_ cA.cr j
 have S:a.cy=[]:=a_ cA.cy j
 have T:a.buf.l=[]:=a_ cA.buf j
 have p:a.am.abs=gt (hs n H 3) t fi 0 0 Q:=a_ cA.am j
 have z:a.am.y=0:=a_ a1.y p
 have A:a.am.x=0:=a_ a1.x p
 have B:a.am.bk= { kR with at_:=fi }:=a_ a1.bk p
 have C:a.am.top=0:=a_ a1.top p
 have D:a.am.dr=(n:Int) - 1:=a_ a1.dr p
 have E:a.am.has=false:=a_ a1.has p
 have U:b2 a.am.az.s.l=t:=a_ (λV=>V.bz.cY) p
 have F:a.am.az.s.l.length=n:=by rw[<-P,<-U,b2,c8]
 have Zg: (eu c b.g a).pred w:=r.all _ au
 have Zh:b.aq.pred w:=(show (aZ<|eB b).pred w from r.all _ au) _ au
 have I: (aZ<|a8 a.am).pred w:=r.all _ au
 have Zi:a.am.aq.pred w:=I _ au
 have Zj:a.am.az.aq.pred w:=I _ au
 refine bX func19 ntmps19 r ?_;refine ap ?_;intro Zk Zl Zm;refine aH ?_;refine bd (λf e=>FB f c b.g a v<|e.has (c:=eu c b.g a) cz)<|bd (λf e=>kc f a.am<|e.has (c:=aZ<|a8 a.am) cW a.am.aq au)<|a7 ?_;refine gA (λk:Nat=>[(0,ptr c),(6,ptr k)]) (λk=>ag w (aK<|i8 c b a)<|aG k (jO a.am) 157::i8 c b a) (λ_=>True) ?_ ?_
 ·refine bN [0,2,3] 4 [[(1,false,[]),(4,false,[5,6]),(7,false,[]),(8,true,[])],[(1,false,[]),(7,false,[]),(4,false,[5,6]),(8,true,[])],[(7,false,[]),(1,false,[]),(4,false,[5,6]),(8,true,[])]] ?_
  refine a7 ?_;focus (refine wO ?_ ?_;(focus refine bF (CL ·)<|aA ?_;refine wO ?_ ?_;refine bd (λf e=>oK f a.am.az<|e.has (c:=aZ<|a8 a.am) cW a.am.az.aq au)<|aA ?_;refine aO rfl (λm o=>(kB (out:=jO a.am) yV rfl rfl (by rw[jO,z,A,B,C,D,E,F];simp[hY,putAt,dJ,Value.cells,kR,r3,fi,gE.enc]) aJ)) ?_;refine ap ?_;intro k J K;refine cv (λ_=>True) (λ_ d=> .inr ⟨.inr ⟨.inr<|d.rem bH.head,dC⟩,dC⟩) (λ_ d=>bh) ?_;rotate_left;refine av ?_;intro k J K;refine cv (λ_=>True) (λ_ d=> .inr ⟨.inr<|d.rem bH.head,dC⟩) (λ_ d=>bh)<|aA ?_;refine bd (λf e=>oK f a.am.az<|e.has (c:=aZ<|a8 a.am) hL a.am.az.aq au) ?_;refine cv (λ_=>True) (λ_ d=> .inr ⟨.inr ⟨.inr<|d.rem bH.head,dC⟩,dC⟩) (λ_ d=>bh)<|av ?_;refine aO rfl (λm o=>(kB (out:=jO a.am) yV rfl rfl (by rw[jO,z,A,B,C,D,E,F];simp[hY,putAt,dJ,Value.cells,kR,r3,fi,gE.enc]) aJ)) ?_);rotate_left 2;refine av ?_;intro k J K;refine cv (λ_=>True) (λ_ d=> .inr<|d.rem bH.head) (λ_ d=>bh)<|aA ?_;refine bF (CL ·) ?_;refine cv (λ_=>True) (λ_ d=> .inr ⟨.inr<|d.rem bH.head,dC⟩) (λ_ d=>bh)<|aA ?_;refine bd (λf e=>oK f a.am.az<|e.has (c:=aZ<|a8 a.am) hL a.am.az.aq au) ?_;refine cv (λ_=>True) (λ_ d=> .inr ⟨.inr ⟨.inr<|d.rem bH.head,dC⟩,dC⟩) (λ_ d=>bh)<|av ?_;refine aO rfl (λm o=>(kB (out:=jO a.am) yV rfl rfl (by rw[jO,z,A,B,C,D,E,F];simp[hY,putAt,dJ,Value.cells,kR,r3,fi,gE.enc]) aJ)) ?_;all_goals (refine aA ?_;refine fR yU rfl rfl (by rw[Ap];exact bC.head) rfl (aV.cons rfl<|aV.cons rfl<|aV.cons rfl<|aV.cons rfl<|aV.cons rfl<|aV.cons rfl<|aV.cons rfl<|aV.cons rfl<|aV.cons rfl<|hg rfl rfl rfl rfl rfl rfl rfl rfl rfl rfl) (by exact ej rfl) ?_;refine ap ?_;exact dN k bh b5 λ_ d=>d.aF ah))
 rintro k -;refine aA ?_;refine bN [0,3] 9 [[(1,false,[]),(2,false,[4,5,6]),(7,true,[]),(8,true,[9,10,11,12]),(13,true,[14,15,16,17]),(18,true,[19,20,21,22]),(23,true,[24,25,26,27]),(28,true,[29,30,31]),(32,true,[33,34,35,36])]] ?_;refine a7 ?_;refine bd (λf e=>FB f c b.g a v<|e.has (c:=eu c b.g a) cz)<|ap ?_;refine bd (λf e=>kj f a.am<|e.has (c:=aZ<|a8 a.am) cW a.am.aq au)<|av ?_;refine aO rfl (λm o=>(abA (r:=true) (xs:=jO a.am) (ys:=jO a.am) N2 rfl rfl rfl (abB a.am) aJ))<|aI ?_;refine bd (λf e=>abu f c b.g a<|e.has (c:=eu c b.g a) cz)<|a7 ?_;refine bF (eh.u7 ·)<|av ?_;refine aO rfl (λm o=>bO rfl rfl (rfl)<|rC (r:=true) NX rfl rfl rfl ak (by rw[R];simp[eqv,rA]) aJ) ?_;refine aH ?_;refine dE (abz · c b a · O T) λi ⟨W,q⟩=>?_;refine a7 ?_;refine aO rfl (λm o=>bO rfl rfl ((bI rfl))<|gY rfl rfl aJ)<|aA ?_;refine bO rfl rfl ((bI rfl)) ?_;refine bd (λf e=>by have d:=abn f c b.g i<|e.has (c:=eu c b.g i) bw;rwa [show i.cy=[] from (a_ cA.cy q).trans S] at d) ?_;refine av ?_;refine aO rfl (λm o=>bO rfl rfl ((bI rfl))<|BA rfl rfl rfl aJ)<|aA ?_;refine aO rfl (λm o=>bO rfl rfl ((bI rfl))<|gY rfl rfl aJ)<|aA ?_;refine bO rfl rfl ((bI rfl)) ?_;refine bd (λf e=>by have d:=FA f c b.g i<|e.has (c:=eu c b.g i) bw;rwa [show i.use=false from (a_ cA.use q).trans v] at d) ?_;refine av ?_;refine aO rfl (λm o=>bO rfl rfl ((bI rfl))<|yB rfl rfl aJ)<|aH ?_;refine bd (λf e=>abt f c b i (e.has (c:=eu c b.g i) bw) (e.has (c:=aZ<|eB b) kG b.aq au) u.h u.st u.fN)<|aU ?_;refine (dg) (KC · c b.g (aZ<|eB b) i · W (b4 _)) λ⟨L,M⟩ ⟨X,Y,Z,_⟩=>?_;refine be ?_;intro Zn Za;have N:ju i.abs=i.abs:=by rw[q,j];rfl
 have Zb:i.abs.aQ=[]:=by rw[q,j];rfl
 have Zc:M.l=[]:=by have Zd:M.l=_:=Y;rw[Zd,N,Zb]
 have Ze:L.abs=_:=Z
 exact aX.cf L ⟨X,by rw[Ze,N,q,j];rfl⟩ (by rw[Zc];rfl)<|Za.aF ah
abbrev hl :Chunk:=aZ<|i8 q J D
structure jU (n m:Nat) (L:List bq) (g:Nat) (p:ck) (T:bM):Prop where
 wf:gK p
 rest:Nc p
 ok:cK g 3 0 T
 d:uf n m L T
def jU.abD(a:jU f u j G M E):Sem M.most E.abs (hs f u 3) j fi 0 0 []:=by
 obtain⟨b,c⟩:=a.d;rw[c];exact WC M.most (o4 f u 3) (hs f u 3) j fi 0 0 b
def uf.abE{T:bM}(d:uf f u j T)(a:cK G O N T):cK G O 0 T:=by
 obtain⟨k,b⟩:=d;have e:T.am.az.bu.l=[]:=a_ (λc=>c.am.bz.g_) b
 have g:T.br.az.bu.l=[]:=a_ (λc=>c.br.bz.g_) b
 have h:T.aQ.l=[]:=a_ cA.aQ b
 have i:T.buf.l=[]:=a_ cA.buf b
 exact⟨a.am,a.br,a.room,a.bt,a.cy,by rw[e,g,h];exact cC 0,by rw[i];exact cC 0,a.aQ,a.md⟩
def jU.abF{e:List UInt8}{b:ck × bM}(a:jU f u j G M E)(k:Sem M.most E.abs (hs f u 3) Y fi 0 0 e)(c:Fd M G M.g 3 N E e b):jU f u Y G b.1 b.2:=by
 obtain⟨s,l⟩:=a.d;obtain⟨⟨m,n⟩,o,p,q,r⟩:=WD c.R ⟨a.rest.h,a.rest.st,a.rest.eH,a.rest.fN⟩ k;have i:uf f u Y b.2:=⟨m,by rw[n,l]⟩
 exact⟨c.wf,⟨o,p,q,r⟩,i.abE c.ok,i⟩
def jU.new{T:bM}(a:cK G 3 0 T/\T.abs=o4 f u 3):jU f u (List.replicate f (List.replicate u eo,false)) G (nk N 9) T:=
 ⟨La aW,⟨rfl,rfl,rfl,rfl⟩,a.1,⟨0,a.2⟩⟩
def Nd :jo (hs q X 3):=WA _ _ _
abbrev FC(a:cm):Chunk:=aZ [a.aq,aZ<|du a.st,aZ<|gM a.dv,k3 a.dM a.es a.cV,aZ<|eB a.p,eu a.cB a.p.g a.T,aZ<|a8 a.T.am,aZ<|a8 a.T.br,a.T.buf.aD,a.T.aQ.aD]
def ag.abG{w:World}(a:ag r F (cl S::B) w):ag r F (FC S::Mq.eS::B) w:=
 ((a.open (l:=dl S) bx).open (l:=fl S.p S.cB S.p.g S.T) c6).close (l:=[S.aq,aZ<|du S.st,aZ<|gM S.dv,k3 S.dM S.es S.cV,aZ<|eB S.p,eu S.cB S.p.g S.T,aZ<|a8 S.T.am,aZ<|a8 S.T.br,S.T.buf.aD,S.T.aQ.aD]) ah
def ag.abH{w:World}(a:ag r F (FC S::Mq.eS::B) w):ag r F (cl S::B) w:=
 ((a.open (l:=[S.aq,aZ<|du S.st,aZ<|gM S.dv,k3 S.dM S.es S.cV,aZ<|eB S.p,eu S.cB S.p.g S.T,aZ<|a8 S.T.am,aZ<|a8 S.T.br,S.T.buf.aD,S.T.aQ.aD]) bx).close (l:=fl S.p S.cB S.p.g S.T) ah).close (l:=dl S) ah
def Nf(b: (aZ<|dl S).pred r): ∀a,Ext [] r a->fJ a:=λa c=>(show tN a from (Chunk.df _ (we b Mq.eS au) c).2).it
def abI{w:World}(a: (hl f M E).pred w): (eu f M.g E).pred w:=a _ au
def abJ{w:World}(a: (hl f M E).pred w):E.am.aq.pred w:=(show (aZ<|a8 E.am).pred w from a _ au) _ au
def abK(g:1<=q/\q<=30)(h:2<=X/\X<=40):ay 12 [ad (q:Int),ad (X:Int),ad 3,ad 9] k
 (aX (λa:Nat × ck × bM=> .tuple #[ptr a.1,z0]) [] (λa=>[hl a.1 a.2.1 a.2.2]) (λa=>jU q X (List.replicate q (List.replicate X eo,false)) a.1 a.2.1 a.2.2/\a.2.2.abs=o4 q X 3/\a.2.1.most=9) k):=by
 refine (Ld k q X 3 9 aa aa aW aW).mono ?_;rintro i j ⟨⟨b,c,d⟩,e,rfl,f⟩;exact⟨(b,nk c 9,d),⟨jU.new e,e.2,rfl⟩,rfl,f.close (l:=i8 b (nk c 9) d) ah⟩
def Ng(e:cm)(a:Nat)(b:ck)(c:bM)(w:bc k [cl e,hl a b c])(m:jU f u j a b c)(x:Sem b.most c.abs (hs f u 3) Y fi 0 0 R)(r:Rd cI k (λG=>G∉aK [cl e,hl a b c]) o G N R)(i:R.length<=165000):
 ay 13 [ptr a,.slice o G N] k (aX (λ_:ck × bM=> .tuple #[]) [cl e,hl a b c] (λh=>[cl e,hl a h.1 h.2]) (λh=>jU f u Y a h.1 h.2) k):=by
 have F:=r.len
 have y:=(w.start k rfl).abG
 have s:=y.open (l:=i8 a b c) pm
 have z: ∀G,G∈aK (fl b a b.g c)->G∈aK [cl e,hl a b c]:=λG i=>by
  obtain⟨N,d,t⟩:=er.1 i;simp only[eJ,o9,or_false] at d
  have A:N∈i8 a b c\/N=Mq.eS:=by
   simp only[eJ,o9,or_false];rcases d with d | d | d | d | d | d | d <;> simp[d]
  rcases A with d | rfl
  exact er.2 ⟨hl a b c,by simp,er.2 ⟨N,d,t⟩⟩;exact er.2 ⟨cl e,by simp,er.2 ⟨aZ<|fl e.p e.cB e.p.g e.T,by simp,er.2 ⟨_,by simp,t⟩⟩⟩
 refine (KG k a b c (s.cb (l:=fl b a b.g c) ah) m.wf m.ok o G N R (r.d8 λG i B=>i<|z G B) aa aa).mono ?_;rintro H I ⟨⟨l,n⟩,v,rfl,C⟩;have q:=s.mR (l0:=fl b a b.g c) ah C
 refine⟨(l,n),m.abF x v,rfl,?_⟩;have D:l.g=b.g:=v.az
 dsimp only at q ⊢
 rw[<-D] at q
 have E:=(q.aF (l:=FC e::Mq.eS::i8 a l n) ah).abH
 exact (E.close (l:=i8 a l n) ah).aF ah
def abL(m:bc k [hl q J D]){L:List bq}(e:jU f u L q J D):ay 18 [ptr D.am.az.g] k
 (aX (λa:dz=>a.val) [hl q J D] (λa=>[hl q J D,a.aD,a.cw]) (λa=>b2 a.l=L) k):=by
 obtain⟨l,h⟩:=e.d;have n:D.am.az.r.rows=[]:=a_ (λb=>b.am.bz.jK) h
 have o:b2 D.am.az.s.l=L:=a_ (λb=>b.am.bz.cY) h
 have c:=e.ok.am
 have i:=E_ c
 have p:=c.small
 have j:=((m.start k rfl).open (l:=i8 q J D) bx).open (l:=a8 D.am) c6
 refine (xL k D.am.az (j.cb (l:=b9 D.am.az) ah) c.g.r i.1 i.2 (by have:D.am.az.s.l.length<=30:=p.1;omega)).mono ?_;rintro x y ⟨a,t,rfl,v⟩;have w:=j.mR (l0:=b9 D.am.az) ah v
 refine⟨a,(show b2 a.l=_ from t).trans<|by rw[n,o];rfl,rfl,?_⟩;exact ((w.close (l:=a8 D.am) ah).close (l:=i8 q J D) ah).aF ah
def abM(g:bc k [hl q J D])(a:jU f u j q J D)(h:1<=f/\f<=100)(i:j.length=f):ay 19 [ptr q,.agg [z0,z0].toArray] k
 (aX (λ_:bM=> .bool true) [hl q J D] (λb=>[hl q J b]) (jU f u j q J ·) k):=by
 have c:=(g.start k rfl).open (l:=i8 q J D) bx
 refine (abC k q J D (c.cb (l:=i8 q J D) ah) a.rest a.ok h i a.d).mono ?_;rintro o p ⟨b,e,rfl,m⟩;refine⟨b,⟨a.wf,a.rest,e.1,?_⟩,rfl,?_⟩;obtain⟨l,n⟩:=a.d;exact⟨l,e.2.trans n⟩;exact ((c.mR (l0:=i8 q J D) ah m).close (l:=i8 q J b) ah).aF ah
def ag.eS{w:World}{s:cm}(a:ag r F B w)(d:Has B (cl s)):ag r F [eS] w:=by
 have e: (aZ<|dl s).pred w:=a.has d
 have f: (aZ<|fl s.p s.cB s.p.g s.T).pred w:=we e
 refine⟨a.ext,by simp[aK,Mq.eS,tE,List.nodup_range'],λh b=>?_,λc i=>a.eU c ?_⟩;obtain rfl:=e0.1 b;exact f _ au;obtain⟨h,b,j⟩:=er.1 i;obtain rfl:=e0.1 b;refine er.2 ⟨cl s,d.mem,?_⟩;show c∈aK (dl s)
 refine er.2 ⟨aZ<|fl s.p s.cB s.p.g s.T,by simp,?_⟩;show c∈aK (fl s.p s.cB s.p.g s.T)
 exact er.2 ⟨Mq.eS,by simp,j⟩
def Nh(L:List StepV)(a:Nat):jx (L.take a)<=jx L:=by
 have b:jx L=jx (L.take a)+jx (L.drop a):=by
  unfold jx;rw[<-List.sum_append,<-gF,iJ]
 omega
structure Ni where
 i:Nat
 s:cm
 v:Value
 K:Chunk
 z:dz
structure abN (n:Nat) (L:List StepV) (t:Ni):Prop where
 i:t.i<=n
 ok:dn t.s (8000000*jx (L.take t.i)+t.i) ((t.i:Int)*10000000000)
 afZ:t.z.l=[]\/ ∃g p T m,t.v=ptr g/\t.K=hl g p T/\jU t.z.l.length m (b2 t.z.l) g p T/\nv t.z.l.length m (b2 t.z.l)
def abO{n m:Nat}{L:List bq}(h:Fz n m L):nv n m (L.map Bo) where
 aC:=⟨h.aC.1,by have:=h.aC;omega⟩
 hm:=⟨h.hm.1,by have:=h.hm;omega⟩
 len:=by rw[c8];exact h.len
 c:=λr a=>by
  obtain⟨x,b,rfl⟩:=ei.1 a;obtain⟨ab,ae⟩:=h.c x b;exact⟨Wq ae,(K7 x.1).trans ab,rfl⟩
def abP(a:Fz f u j):134*u*f<=160800:=
 ge (Nat.mul_le_mul (wv 134 a.hm.2) a.aC.2) aW
def uf.use(a:uf f u j E):E.use=false:=by
 obtain⟨b,a⟩:=a;exact a_ cA.use a
def abQ{most:Int}{t:cA}{S:a1}(e: ∀c,Ext [] k c->fJ c){d:Option Addr}{a:Nat}(g:u=f)(h:dT k U o f G j)(i:dT k U d u N Y)(l:nv f a j)(m:nv u a Y)(n:134*a*f<=160800)(p:jo S)(q: (a:Int)=S.bz.al)(r:Sem most t S Y fi 0 0 []):
 ay 14 [.slice d u N,.slice o f G,.agg [z0,z0].toArray] k (aX (λb:List UInt8=> .tuple #[bU b,z0]) [] (λ_=>[]) (λb=>b.length<=165000/\Sem most t S j fi 0 0 b) k):=by
 subst g;exact abd k e h i l m n p q r
def abR(b:Nat)(c:b=X)(d:1<=q/\q<=30)(e:2<=X/\X<=40):ay 12 [ad (q:Int),ad (b:Int),ad 3,ad 9] k
 (aX (λa:Nat × ck × bM=> .tuple #[ptr a.1,z0]) [] (λa=>[hl a.1 a.2.1 a.2.2]) (λa=>jU q X (List.replicate q (List.replicate X eo,false)) a.1 a.2.1 a.2.2/\a.2.2.abs=o4 q X 3/\a.2.1.most=9) k):=by
 subst c;exact abK k q b d e
def abS{b:Nat->Prop}{a:Option Addr}(c:f=u)(d:dT k U o f G Y)(e:dT k b a u N j)(g:Y=j)(h:f<=1000)(i: ∀l∈j,l.1.length<=1000):ay 15 [.slice o f G,.slice a u N] k (il (.bool true) k):=by
 subst c;subst g;exact aby k d e h i
set_option maxHeartbeats 2000000 in
def abT(w:World)(ZR:bc w [eS])(Q t c R S:Int)(ZS:0<=Q/\Q<=255)(ZT:0<=t/\t<=255)(ZU:0<=c/\c<=255)(ZV:0<=R/\R<=255)(ZW:0<=S/\S<=255)(Zg:Nat->Prop)(D:Option Addr)(u E:Nat)(L:List StepV)(F:Rd EStep w Zg D u E L)(ZA: ∀I,Zg I->I∉aK [eS])(ZX: ∀x∈L,x.s.length<=4611686018427387904)(ZY: ∀x∈L,-9223372036854775808<=x.a/\x.a<=9223372036854775807):
 ay 3 [.agg [.int .u8 Q,.int .u8 t,.int .u8 c,.int .u8 R,.int .u8 S].toArray,.slice D u E] w (aX (λ_:Unit=> .bool true) [eS] (λ_=>[eS]) (λ_=>True) w):=by
 have Zbb:=F.len
 refine bX func3 ntmps3 ZR ?_;refine ap ?_;intro G Zbc Zbd;refine aI ?_;refine gA (λg:Bool=>[(1,.slice D u E),(2,ptr G),(21,.bool g)]) (λ_=>ag w (aK [eS]) [aG G [.int .u8 Q,.int .u8 t,.int .u8 c,.int .u8 R,.int .u8 S] 23,eS]) (λg=>g=false->Fh L) ?_ ?_;refine aA ?_;refine bK (l0:=[]) aP.nil (λm ZZ=>aar m Zg D u E L (F.ext ZZ.ext ZA) ZX) λg Zh=>av ?_;refine bl 18 rfl (λZ0=>a7 ?_) λZ0=>av ?_;refine dN _ ?_ (ed rfl rfl rfl) λ_ k=>k.aF ah;exact λk=>Bool.noConfusion k
 refine dE (MY · ·) λ_ _=>?_;refine a7 ?_;refine dN _ ?_ (ed rfl rfl rfl) λ_ k=>k.aF ah;exact λ_=>Zh bR
 rintro g Zh;refine av ?_;refine cD rfl (λZB=>aA ?_) λZB=>?_;refine dE (MY · ·) λ_ _=>?_;refine aH ?_;exact bT () bh;have Zi:=Zh ZB
 refine aI ?_;refine dE (aap · · Q t c R S ZS ZT ZU ZV ZW) λZ1 Z2=>?_;refine wQ ?_;refine cd (ι:=Ni) (λj=>[(1,.slice D u E),(5,ptr j.s.g),(6,j.v),(7,j.z.val),(8,ad (j.i:Int))]) (λj=>ag w (aK [eS]) [cl j.s,j.K,j.z.aD,j.z.cw]) (abN u L ·) (λj=>u - j.i) ?_ ?_;exact λZbe Z3=>⟨⟨0,Z1,.pointer none,aZ<|List.map b_.aQ [],⟨none,0,[]⟩⟩,⟨b4 _,by simpa [jx] using Z2,.inl rfl⟩,(en rfl rfl rfl rfl rfl),(Z3.pG.pG.e4 39 cx).aF ah⟩
 rintro⟨q,s,Zj,Zk,n⟩ ⟨Z4,ZC,ZD⟩;dsimp only at Z4 ZC ZD ⊢
 have Zbf:jx (L.take q)<=jx L:=Nh L q
 have Zbg:=Zi.len
 have Zbh:=Zi.sum
 refine (aE) (λZ5=>?_) λZ5=>b6 ?_;obtain⟨⟨Zl,Zm,Zn,Zo⟩,Zp⟩ : ∃x,L[q]? = some x:=⟨_,bD aa⟩;have ZE:=cR Zp
 have Z6:=MU Zp
 have Zbi:jx (L.take<|q+1)<=jx L:=Nh L<|q+1
 have ZF:=ZY _ ZE
 have Z7:wi ⟨Zl,Zm,Zn,Zo⟩:=Zi.ok _ ZE
 dsimp only at Z6 ZF
 obtain⟨Zbj,Z8,Z9,Zaa⟩:=F.at_ Zp;refine a6 ?_;refine bE (q:=q) BF rfl rfl rfl Z8 rfl aa ?_;refine cE (vs:=[ad Zl,ad Zm,ad Zn,bU Zo]) F9 rfl rfl rfl (λW p Zab Zac Zad=>p.ch (Zaa Zab Zac Zad)<|by rw[block_add,block_add];exact ZA _ Z9) ?_;refine (dg) (aao · s ZC · aa aa Zl Zm Zn Zo aa ZF Z7) λo Zae=>ap ?_;obtain⟨Zaf,ZG⟩:=Zae;rw[<-Zaf];have Zag:dn o (8000000*jx (L.take<|q+1)+(q+1)) (((q+1 :Nat):Int)*10000000000):=ZG.mono aa aa
 refine aA ?_;refine dE (abm · o ZG ·) λx ⟨Zah,r,y⟩=>?_;refine bK (l0:=[]) aP.nil (λm e=>abg m (nL (e.has (c:=x.aD) cz)<|e.has (c:=x.cw) cW) (by have p:=y.len;have Zai:=y.aC;rw[b2,c8] at p;omega) λT F=>by have p:=(y.c T F).1;have Zai:=y.hm;omega) λb Zaj=>?_;refine aI ?_;have Zak:b2 b.l=(b2 x.l).map Bo:=Zaj
 have A:=abO y
 rw[<-Zak] at A
 have ZH:=abP y
 have Zal:=y.aC
 have Zam:=y.hm
 have Zan:Zah=b.l.length:=by rw[<-A.len,b2,c8]
 subst Zan;obtain⟨g0,X⟩ : ∃g0,b.l[0]? = some g0:=⟨_,bD aa⟩;have Zao:g0.cells.length=r:=(A.c g0.fI<|ei.2 ⟨g0,cR X,rfl⟩).2.1
 have Zap: ∀T∈b2 b.l,T.1.length<=1000:=λT F=>by have:=(A.c T F).2.1;omega
 refine Fx (λZaq Zq=>xD (Zq.has (c:=b.aD) bw) aa) λB=>?_;obtain⟨Zbk,B⟩:=B;refine aI ?_;refine bO rfl rfl (bJ aa)<|av ?_;refine bO rfl rfl (bJ aa)<|av ?_;refine bO rfl rfl (bJ aa)<|av ?_;refine bO rfl rfl (bJ aa)<|bE (q:=0) dy rfl rfl rfl B rfl aa<|bO rfl rfl (bJ aa)<|av ?_;refine bO rfl rfl (bJ aa)<|bb (v:=g0.val) j3 rfl rfl (λW p=>p.hG (E:=cx) bw B X 0 _ rfl)<|bO rfl rfl (bJ aa)<|av ?_;refine bO rfl rfl (bJ aa)<|bF (abw · b.l.length g0.cells.length aa aa)<|bO rfl rfl (bJ aa)<|av ?_;refine hd rfl rfl (bJ aa) rfl<|aH ?_;refine gA (λj:Nat × ck × bM=>[(1,.slice D u E),(5,ptr o.g),(6,ptr j.1),(8,ad (q:Int)),(9,b.val)]) (λj=>ag w (aK [eS]) [cl o,hl j.1 j.2.1 j.2.2,b.aD,b.cw]) (λj=>jU b.l.length r (b2 b.l) j.1 j.2.1 j.2.2) ?_ ?_;refine av ?_;refine gA (λt:Bool=>[(1,.slice D u E),(5,ptr o.g),(6,Zj),(7,n.val),(8,ad (q:Int)),(9,b.val),(73,.bool t)]) (λ_=>ag w (aK [eS]) [cl o,Zk,n.aD,n.cw,b.aD,b.cw]) (λt=>t=false-> ∃g U V,Zj=ptr g/\Zk=hl g U V/\n.l.length=b.l.length/\jU b.l.length r (b2 n.l) g U V/\nv b.l.length r (b2 n.l)) ?_ ?_;by_cases Y:n.l.length=b.l.length
 obtain⟨J,M,N,m7,Zar,Zas,Z,Za⟩ : ∃g U V ZI,Zj=ptr g/\Zk=hl g U V/\jU n.l.length ZI (b2 n.l) g U V/\nv n.l.length ZI (b2 n.l):=by
  rcases ZD with Zr | Zr
  rw[Zr,gN] at Y;omega
  exact Zr
 obtain⟨g1,ZJ⟩ : ∃g1,n.l[0]? = some g1:=⟨_,bD aa⟩;have Zbl:g1.cells.length=m7:=(Za.c g1.fI<|ei.2 ⟨g1,cR ZJ,rfl⟩).2.1
 refine Fx (λZaq Zq=>xD (Zq.has (c:=n.aD) hM) aa) λZb=>?_;obtain⟨Zbm,Zb⟩:=Zb;refine bN [0,1,2,3,4,5,6,7,8,9,10,11,12,13,14,15,16,17] 0 [[]] ?_;refine aH ?_;refine aO rfl (λh f=>bO rfl rfl ((bJ aa))<|gY rfl rfl aJ) ?_;refine aO rfl (λh f=>bO rfl rfl ((bJ aa))<|bE (q:=0) dy rfl rfl rfl Zb rfl aa aJ) ?_;refine aO rfl (λh f=>bO rfl rfl ((bJ aa))<|uw yQ rfl rfl aJ) ?_;refine aO rfl (λh f=>bO rfl rfl ((bJ aa))<|bb (v:=g1.val) j3 rfl rfl (λW Zs=>by subst Zs;exact f.hG (E:=cx) hM Zb ZJ 0 _ rfl) aJ) ?_;refine aO rfl (λh f=>bO rfl rfl ((bJ aa))<|yC underlying37 rfl rfl aJ) ?_;refine aO rfl (λh f=>bO rfl rfl ((bJ aa))<|gY rfl rfl aJ) ?_;refine aO rfl (λh f=>bO rfl rfl ((bJ aa))<|bE (q:=0) dy rfl rfl rfl B rfl aa aJ) ?_;refine aO rfl (λh f=>bO rfl rfl ((bJ aa))<|uw yQ rfl rfl aJ) ?_;refine aO rfl (λh f=>bO rfl rfl ((bJ aa))<|bb (v:=g0.val) j3 rfl rfl (λW Zs=>by subst Zs;exact f.hG (E:=cx) bw B X 0 _ rfl) aJ) ?_;refine aO rfl (λh f=>bO rfl rfl ((bJ aa))<|yC underlying37 rfl rfl aJ) ?_;refine aO rfl (λh f=>bO rfl rfl ((bJ aa))<|wC rfl rfl rfl aJ) ?_;refine aO rfl (λh f=>(hd rfl rfl (bJ aa) rfl aJ))<|aA ?_;have ZK:decide ((g1.cells.length:Int)≠(g0.cells.length:Int))=false->m7=r:=λk=>by have p:=bm k;omega
 exact dN (decide<|(g1.cells.length:Int)≠(g0.cells.length:Int)) (λk=>⟨J,M,N,Zar,Zas,Y,by rw[<-Y,<-ZK k];exact Z,by rw[<-Y,<-ZK k];exact Za⟩) b5 λ_ k=>k.aF ah;refine bN [0,1,2,3,4,5,6,7,8,9,10,11,12,13,14,15,16,17] 0 [[]] ?_;refine aH ?_;refine aO rfl (λh f=>e9 rfl rfl rfl ((bI aa)) aJ) ?_;refine aO rfl (λh f=>e9 rfl rfl rfl ((bI aa)) aJ) ?_;refine aO rfl (λh f=>e9 rfl rfl rfl ((bI aa)) aJ) ?_;refine aO rfl (λh f=>e9 rfl rfl rfl ((bI aa)) aJ) ?_;refine aO rfl (λh f=>e9 rfl rfl rfl ((bI aa)) aJ) ?_;refine aO rfl (λh f=>e9 rfl rfl rfl ((bI aa)) aJ) ?_;refine aO rfl (λh f=>e9 rfl rfl rfl ((bI aa)) aJ) ?_;refine aO rfl (λh f=>e9 rfl rfl rfl ((bI aa)) aJ) ?_;refine aO rfl (λh f=>e9 rfl rfl rfl ((bI aa)) aJ) ?_;refine aO rfl (λh f=>e9 rfl rfl rfl ((bI aa)) aJ) ?_;refine aO rfl (λh f=>e9 rfl rfl rfl ((bI aa)) aJ) ?_;refine aO rfl (λh f=>(mF rfl rfl (bI aa) rfl aJ))<|aA ?_;exact dN true (Bool.noConfusion ·) b5 λ_ k=>k.aF ah;rintro Zbn Zat;refine av ?_;refine cD rfl (λZL=>a7 ?_) λZL=>?_;refine bK (l0:=[]) aP.nil (λm e=>aa1 (most:=9) (t:=o4 b.l.length r 3) (S:=hs b.l.length r 3) m (Nf<|e.has (c:=cl o) bw) (nL (e.has (c:=b.aD) j4)<|e.has (c:=b.cw) kG) A ZH (Nd _ _) rfl<|WB 9 b.l.length r 3) λxs O=>?_;refine b6 ?_;refine bE (q:=0) dy rfl rfl rfl B rfl aa<|av ?_;refine bb (v:=g0.val) j3 rfl rfl (λW p=>p.hG (E:=cx) j4 B X 0 _ rfl)<|av ?_;refine kH (abR · b.l.length r g0.cells.length Zao Zal Zam) λ⟨G,Zc,Zd⟩ Ze=>wQ ?_;obtain⟨Ze,ZM,ZN⟩:=Ze;dsimp only at Ze ZM ZN
 have Zau:Sem Zc.most Zd.abs (hs b.l.length r 3) (b2 b.l) fi 0 0 xs:=by rw[ZM,ZN];exact O.2
 have Zav:=O.1
 refine aY ?_;refine Os.xO underlying9 underlying48 underlying5 rfl rfl aa λcu Zaw Zax Zay Zt Zu=>?_;refine bK (l0:=[cl o,hl G Zc Zd]) ah (λm e=>Ng m o G Zc Zd (e.cb ah) Ze Zau ((Os.Rd.xN (E:=cI) (e:=5) e (g:=cu) bw Zt Zu).d8 λI Zv=>by subst Zv;exact e.wh (l:=[Os.iW I 5 (cI.all xs)]) (l2:=[cl o,hl G Zc Zd]) ah ah<|by simp[aK,Os.iW]) Zav) λ⟨Zw,Zx⟩ Zy=>?_;refine av ?_;exact dN (G,Zw,Zx) Zy b5 λ_ k=>k.aF ah;obtain⟨J,M,N,rfl,rfl,ZO,Z,Za⟩:=Zat ZL;refine aI ?_;refine bK (l0:=[]) aP.nil (λm e=>abQ (most:=M.most) (t:=N.abs) (S:=hs b.l.length r 3) m (Nf<|e.has (c:=cl o) bw) ZO (nL (e.has (c:=b.aD) j4)<|e.has (c:=b.cw) kG) (nL (e.has (c:=n.aD) cW)<|e.has (c:=n.cw) hL) A (ZO.symm▸Za) ZH (Nd _ _) rfl Z.abD) λxs O=>?_;refine gR ?_;refine Os.xO underlying9 underlying48 underlying5 rfl rfl (by have:=O.1;omega) λcu Zaw Zax Zay Zt Zu=>?_;refine bK (l0:=[cl o,hl J M N]) ah (λm e=>Ng m o J M N (e.cb ah) Z O.2 ((Os.Rd.xN (E:=cI) (e:=5) e (g:=cu) bw Zt Zu).d8 λI Zv=>by subst Zv;exact e.wh (l:=[Os.iW I 5 (cI.all xs)]) (l2:=[cl o,hl J M N]) ah ah<|by simp[aK,Os.iW]) O.1) λ⟨Zw,Zx⟩ Zy=>?_;refine av ?_;exact dN (J,Zw,Zx) Zy b5 λ_ k=>k.aF ah;rintro⟨C,H,P⟩ Zf;dsimp only at Zf
 refine aI ?_;refine bd (λm e=>FB m C H.g P Zf.d.use<|abI<|e.has (c:=hl C H P) cz)<|bd (λm e=>kc m P.am<|abJ<|e.has (c:=hl C H P) cz) ?_;refine dE (abL · C H P · Zf) λZP Zz=>?_;refine av ?_;refine bd (λm e=>abS m (by have p:=a_ List.length Zz;rw[b2,b2,c8,c8] at p;exact p) (nL (e.has (c:=ZP.aD) cz)<|e.has (c:=ZP.cw) cW) (nL (e.has (c:=b.aD) j4)<|e.has (c:=b.cw) kG) Zz (by have p:=a_ List.length Zz;rw[b2,b2,c8,c8] at p;omega) Zap) ?_;refine aU ?_;refine (dg) (abM · C H P · Zf aa A.len) λZQ Zaz=>fT ?_;exact bv ⟨q+1,o,ptr C,hl C H ZQ,b⟩ ⟨by dsimp only;omega,Zag,.inr ⟨C,H,ZQ,r,rfl,rfl,Zaz,A⟩⟩ bL b5 λ_ k=>k.aF ah;exact λZbo Zba=>aX.cf () bh rfl<|Zba.eS (s:=s) bw
open Go.ChangeShapes Go.WideShapes Go.Deep
def abU{H:Type}: (Rows.laid_internal_strconv_uint64pow10:DataW H)=Lib.tabData .u64 Lib.pow10Tab:=by kernel_rfl
def abV{H:Type}: (Rows.laid_math_bits_deBruijn64tab:DataW H)=Lib.tabData .u8 (Lib.deBruijn64tab.map Int.ofNat):=by kernel_rfl
def Nj: "*"++ "errors.errorString" = "*errors.errorString":=by decide
def Nk(a:TypeId)(b:prog.typeName? 3 a=some "*errors.errorString"):a=496:=
 typeName_ptr_named (nm:= "errors.errorString") (by rw[Nj];kernel_rfl) ak aW a (by rw[Nj];exact b)
def abW{W:World}{d:List (String × DataW Unit)}(e:laidMet prog (("math/bits.deBruijn64tab",Lib.tabData .u8<|Lib.deBruijn64tab.map Int.ofNat)::d) W):dw.oQ W:=by
 have a:=Lib.tabIs_of_head (g:=1) (n:=64) (t:=465) (e:=5) ak ak ak ak ak ak e
 unfold Lib.TabIs World.var? at a
 rw[show prog.globalNamed "math/bits.deBruijn64tab" = some 1 by kernel_rfl,sN] at a
 intro b f;show W.cell? ⟨1,b,none⟩=_
 cases c:W.heap[1]? with
 | none=>rw[c] at a;cases a
 | some g=>
  rw[c] at a
  cases g with
  | cells h i j=>
   simp only[ek] at a
   subst a;rw[World.cell?];simp only[c];have: (List.map (Value.int .u8 ·)<|List.map Int.ofNat Lib.deBruijn64tab)[b]? = some (.int .u8<|Lib.deBruijn64tab.getD b 0):=by
    rw[fw,fw,fY,bD f];rfl
   simpa using this
  | _=>cases a
def Nl(a:Program)(b:TypeId):Bool:=match a.cellTypes a.depth b with
 | some c=>c.all λd=>match a.underlying d with
  | some (.int _)=>true
  | _=>false
 | none=>false
def wl{W:World}{g:Nat}{t:TypeId}(i:W.ShapedOpen A)(j:g<A.globals.size)(k: (((begin A (λ_ _=>0) default).world.heap[g]?).bind Obj.row?).map Prod.snd=some t)(l:A.buildable t=true)(c:Nl A t=true):
 ∃b m o,W.heap[g]? = some (.cells b m o)/\ ∀(d:Nat)(a:Value),b[d]? = some a-> ∃f n,a= .int f n:=by
 obtain⟨⟨p,q⟩,r,rfl⟩:=sO.1 k;obtain⟨b,s,_,u⟩:=i.1 g p q j r;obtain⟨C,v,_,w⟩:=u l;refine⟨b,_,_,s,λd a x=>?_⟩;obtain⟨y,z,e⟩:=w d a x;unfold Nl at c
 rw[v] at c
 have h:=jW.1 c y<|cR z
 unfold Cell.ok at e
 split at h
 rename_i f B;rw[B] at e
 cases a <;> simp at e
 exact⟨_,_,rfl⟩;cases h
def wm{W:World}(i: ∃b c d,W.heap[f]? = some (.cells b c d)/\ ∀(j:Nat)(e:Value),b[j]? = some e-> ∃g h,e= .int g h)(k:Z.block=f)(l:ByteArray):W.cell? Z≠some (.string l):=by
 obtain⟨b,c,d,m,n⟩:=i;intro a;rw[World.cell?,k,m] at a
 dsimp only at a
 split at a
 cases a
 obtain⟨g,h,o⟩:=n _ _ a;cases o
def Nm{W:World}{c:String}(e:A.globalNamed c=some f)(b:W.var? A c=some #[.iface I V])(g:Z.block=f)(d:ByteArray):W.cell? Z≠some (.string d):=by
 intro a;simp only[World.var?,e,sN] at b
 rw[World.cell?,g] at a
 split at a
 rename_i j k l h;rw[h] at b
 simp only[ek] at b
 subst b;split at a
 cases a
 have i:=cR (by simpa using a: ([Value.iface I V])[Z.off]? = some (.string d))
 simp at i
 cases a
structure FD (W:World):Prop where
 own:letI:Inhabited vP:=⟨⟨W⟩⟩;bc W [eS]
 str: ∀a:Addr,a.block<8-> ∀s,W.cell? a≠some (.string s)
def st0_of{W:World}(d:laidMetH prog Rows.topDrawsRow.laid W)(c:W.ShapedOpen prog):FD W:=by
 rw[MakeChecks.laidMetH_plain _ _ _ ak] at d
 have ar:laidMet prog (("math/bits.deBruijn64tab",(Rows.laid_math_bits_deBruijn64tab:DataW Unit))::Rows.topDrawsRow.laid.tail) W:=d
 have e:=laidMet.tail d
 have i:=laidMet.tail<|laidMet.tail<|laidMet.tail<|laidMet.tail e
 have m:=laidMet.tail i
 rw[show (Rows.laid_internal_strconv_uint64pow10:DataW Unit)=Lib.tabData .u64 Lib.pow10Tab from abU] at e
 rw[show (Rows.laid_math_bits_deBruijn64tab:DataW Unit)=Lib.tabData .u8 (Lib.deBruijn64tab.map Int.ofNat) from abV] at ar
 obtain⟨n,y,f,_⟩:=laid_sentinel (g:=7) (ti:=193) (tp:=496) (te:=498) (ts:=9) m ak ak underlying193 Nk underlying496 underlying498 rfl rfl underlying9 ak ak;obtain⟨o,z,j,_⟩:=laid_sentinel (g:=6) (ti:=193) (tp:=496) (te:=498) (ts:=9) i ak ak underlying193 Nk underlying496 underlying498 rfl rfl underlying9 ak ak;have k:fJ W:=Lib.tabIs_of_head (g:=0) (n:=20) (t:=432) (e:=63) ak ak ak ak ak ak e
 have p:=wl (g:=0) c (bg ak) (t:=432) ak ak ak
 have q:=wl (g:=1) c (bg ak) (t:=465) ak ak ak
 have r:=wl (g:=2) c (bg ak) (t:=477) ak ak ak
 have s:=wl (g:=3) c (bg ak) (t:=3) ak ak ak
 have t:=wl (g:=4) c (bg ak) (t:=489) ak ak ak
 have u:=wl (g:=5) c (bg ak) (t:=492) ak ak ak
 have l:prog.globalNamed "strconv.ErrSyntax" = some 6:=by kernel_rfl
 have g:prog.globalNamed "strconv.ErrRange" = some 7:=by kernel_rfl
 have v:8<=W.heap.size:=by
  rcases fd 7 W.heap.size with ar | ar
  exact ar;have h:=f
  simp only[World.var?,g,sN] at h
  rw[Array.getElem?_eq_none ar] at h
  cases h
 refine⟨⟨λA w=>?_,?_⟩,λa B b=>?_⟩;letI:Inhabited vP:=⟨⟨W⟩⟩
 obtain rfl:=e0.1 w;refine⟨λ_=>v,⟨λ_ _=>rfl,abW ar,k,k,⟨⟨496,.pointer<|some o,?_⟩,⟨496,.pointer<|some n,?_⟩⟩,Os.UC c⟩⟩;have ar:=World.var?_cell l j 0
 exact ar;have ar:=World.var?_cell g f 0
 exact ar;simp[aK,eS,tE,List.nodup_range']
 have x:a.block=0\/a.block=1\/a.block=2\/a.block=3\/a.block=4\/a.block=5\/a.block=6\/a.block=7:=by omega
 rcases x with ar | ar | ar | ar | ar | ar | ar | ar
 exact wm p ar b;exact wm q ar b;exact wm r ar b;exact wm s ar b;exact wm t ar b;exact wm u ar b;exact Nm l j ar b;exact Nm g f ar b
structure SzV where
 a:Int
 b:Int
 c:Int
 d:Int
 e:Int
def SzV.enc(f:SzV):List Value:=[.int .u8 f.a,.int .u8 f.b,.int .u8 f.c,.int .u8 f.d,.int .u8 f.e]
def SzV.Wf(f:SzV):Prop:=(0<=f.a/\f.a<=255)/\(0<=f.b/\f.b<=255)/\(0<=f.c/\f.c<=255)/\(0<=f.d/\f.d<=255)/\0<=f.e/\f.e<=255
section
variable {H:Type}{enc:TypeId × Value->H}{w:World}{base:Nat}{spare:Nat->Bool}{held:Bool}
def abX(a: (Lit.int .i64 O).wf=true): -9223372036854775808<=O/\O<=9223372036854775807:=by
 simpa [Lit.wf,IntKind.min,IntKind.max,IntKind.signed,IntKind.bits] using a
def yw(a: (Lit.int .u8 O).wf=true):0<=O/\O<=255:=by
 simpa [Lit.wf,IntKind.min,IntKind.max,IntKind.signed,IntKind.bits] using a
def sz_of(b:Fits enc A w base spare held [.int .u8,.int .u8,.int .u8,.int .u8,.int .u8] C): ∃a:SzV,SzV.enc a=C/\a.Wf:=by
 obtain⟨_,_,rfl,⟨c,rfl,d⟩,e⟩:=b.cons;obtain⟨_,_,rfl,⟨f,rfl,g⟩,h⟩:=e.cons;obtain⟨_,_,rfl,⟨i,rfl,j⟩,k⟩:=h.cons;obtain⟨_,_,rfl,⟨l,rfl,m⟩,n⟩:=k.cons;obtain⟨_,_,rfl,⟨o,rfl,p⟩,q⟩:=n.cons;obtain rfl:=q.Gq;exact⟨⟨c,f,i,l,o⟩,rfl,yw d,yw g,yw j,yw m,yw p⟩
def Nn:List l2:=[.int .i64,.int .i64,.int .i64,.str]
def StepV.Wf(b:StepV):Prop:=(-9223372036854775808<=b.a/\b.a<=9223372036854775807)/\b.s.length<=reachBytes
def abY(c:Fits enc A w base spare held Nn C): ∃a:StepV,EStep.enc a=C/\a.Wf:=by
 obtain⟨_,_,rfl,⟨d,rfl,m⟩,e⟩:=c.cons;obtain⟨_,_,rfl,⟨f,rfl,g⟩,h⟩:=e.cons;obtain⟨_,_,rfl,⟨i,rfl,n⟩,j⟩:=h.cons;obtain⟨_,_,rfl,⟨b,rfl,k⟩,l⟩:=j.cons;obtain rfl:=l.Gq;exact⟨⟨d,f,i,b.data.toList⟩,rfl,abX g,by show b.data.toList.length<=reachBytes;rw[nx];exact k⟩
def abZ:s7 prog 4 33=some Nn:=by kernel_rfl
def openSts{b:DataW H × List MemPlace}(c:DataW.trod enc prog w base spare held f 24 [.slice o u G]=some b)(d:rE prog 24 b.1):
 ∃a,Rd EStep w (λe=>e<w.heap.size) o u G a/\u<=reachBytes/\ ∀g∈a,g.Wf:=by
 obtain⟨a,h,i,j⟩:=Oe (E:=EStep) (G:=StepV.Wf) 4 _ underlying24 ak aW abZ (λl k=>abY k) (bg ak) c d;exact⟨a,h,j,i⟩
end
def ab0{W:World}(j:FD W){L:List StepV}(a:Rd EStep W (λb=>b<W.heap.size) o f u L):Rd EStep W (λb=>b<W.heap.size/\8<=b) o f u L:=by
 refine⟨a.len,a.cap,a.max,λk=>?_⟩;obtain⟨d,l,m,e⟩:=a.cells k;refine⟨d,l,⟨m,?_⟩,e⟩;have g:=a.len
 cases h:L with
 | nil=>rw[h] at g;simp at g;omega
 | cons i p=>
  have n:=e 0 i 3 (.string<|bs i.s) (by rw[h];rfl) rfl
  rcases fd d.block 8 with c | c
  exact absurd n<|j.str _ (by simpa [Addr.add] using c) _;exact c
def draws_p(W:World)(q:FD W)(e:SzV)(c:e.Wf)(f:Option Addr)(g h:Nat)(i:List StepV)(u:Rd EStep W (λa=>a<W.heap.size) f g h i)(r: ∀j∈i,j.Wf):
 Calls prog 3 #[.agg e.enc.toArray,.slice f g h] W (λd k=>d= .returned (.bool true)/\Ext [] W k):=by
 letI:Inhabited vP:=⟨⟨W⟩⟩
 obtain⟨j,v,w,x,d⟩:=e;refine (abT W q.own j v w x d c.1 c.2.1 c.2.2.1 c.2.2.2.1 c.2.2.2.2 (λa=>a<W.heap.size/\8<=a) f g h i (ab0 q u) (λa s l=>?_) (λm n=>ge (r m n).2 aW) λm n=>(r m n).1).mono λd k y=>?_
 obtain⟨z,o,p⟩:=er.1 l;obtain rfl:=e0.1 o;have:=p8.1 p
 omega
 obtain⟨_,_,A,b⟩:=y;have B:eS.pred k:=b.all _ au
 refine⟨A,b.ext.os,b.ext.tape,b.ext.output,b.ext.size,λa s _=>?_⟩;rcases fd a 8 with t | t
 exact B.2.ao a t;refine b.ext.block a s λl=>?_;obtain⟨z,o,p⟩:=er.1 l;obtain rfl:=e0.1 o;have:=p8.1 p
 omega
section
variable {H:Type}{enc:TypeId × Value->H}{w:World}{base:Nat}{spare:Nat->Bool}{held:Bool}
def wt_of{a:List TypeId}{b:List (DataW H)}(e: (DataW.weightsEach P a b).all (· <=reachBytes)=true){j:Nat}{d:DataW H}(f:a[j]? = some I)(g:b[j]? = some d):rE P I d:=λc h=>by
 simpa using jW.1 e c (DataW.weights_mem_each f g c h)
def okWide_agg{i:Reach}(a: (∃e,P.underlying I=some (.struct e))\/ ∃g h,P.underlying I=some (.array g h))(c:Value.okWide P w i f I V): ∃b,V= .agg b:=by
 rcases a with ⟨e,a⟩ | ⟨g,h,a⟩
 obtain⟨b,d,_⟩:=okWide_struct a c;exact⟨b,d⟩;simp only[Value.okWide,a] at c
 obtain⟨b,d,_⟩:=c;exact⟨b,d⟩
def Ext.below{w:World}(a:Ext [] w r):Below w.heap.size w r:=⟨a.os,a.tape,a.output,a.size,λb c=>a.block b c au⟩
def arr_of{a:Array Value}(b:C=a.toList):a=C.toArray:=by rw[b]
