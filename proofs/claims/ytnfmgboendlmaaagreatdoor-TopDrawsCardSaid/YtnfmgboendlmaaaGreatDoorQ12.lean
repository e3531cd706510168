/- part 12 of the proof -/
import Derived.Test.YtnfmgboendlmaaaGreatDoorQ11
set_option linter.all false
namespace Go.Proofs.YtnfmgboendlmaaaGreatDoor.Mq
open RowKit Tryz
variable {P:Program}{n d:Nat}{ops:Array Oper}{Q:cN}{rest:List Oper}{l:Fr}{ty:TypeId}{pos:String}{bf:Array Edge}{b:World}{S:List Nat}{cs:List Chunk}
variable {y:Addr}{L:Array TypeId}{J:Bool}{M:FuncId}{i:List Chunk}{K:List Operand}{E:List UInt8}{o:List Value}{q:List aL}{A B D j x z:Nat}{C r:Operand}{I:Option Addr}{N:Type}{w:Value}{p:World}{G:aL->Prop}{v:bQ}(F:Chunk)(a:World)(h:bQ)(g:Nat->Prop)(e:Nat)(f:Option Addr)(m:Int)(H:b_)(u:Int)(c:List aL)(k:Nat)
def gH(a:Nat)(b:List UInt8):List aL:=match c[a]? with | some d=>c.set a (uT d b) | none=>c
def eq(b d:Int):List aL:=
 if b<0\/(c.length:Int)<=b then c else
 match c[b.toNat]? with
 | none=>c
 | some a=>
  if a.r=0\/cO d≠0 then c else
  if 32<(a.more++dk d).length then c else
  gH (if a.half=1 then gH c (b.toNat+1) (a.more++dk d) else if a.half=2 then gH c (b.toNat - 1) (a.more++dk d) else c) b.toNat (a.more++dk d)
def Cl(a:Nat)(b:List UInt8): (gH c a b).length=c.length:=by
 unfold gH;split <;> simp
def gS(a b:Int): (eq c a b).length=c.length:=by
 unfold eq;split
 rfl
 split
 rfl
 split
 rfl
 split
 rfl
 rw[Cl];split
 exact Cl _ _ _;split
 exact Cl _ _ _;rfl
def zl{h:List aL}:b7 h=h-> ∀q c,h[q]? = some c->(c.half=1->q+1<h.length)/\(c.half=2->0<q):=by
 fun_induction b7 h with
 | case1=>intro _ q c a;simp at a
 | case2 c=>
  intro f q d a;obtain⟨rfl,rfl⟩ :q=0/\c=d:=by
   cases q with
   | zero=>simpa using a
   | succ q=>simp at a
  have b: (if c.half=0\/c.half=3 then c else hp c.at_)=c:=by simpa using f
  constructor
  intro g;rw[ai aa] at b
  rw[<-b] at g;simp[hp] at g
  intro g;rw[ai aa] at b
  rw[<-b] at g;simp[hp] at g
 | case3 c d l m i=>
  intro f q e a;have j:b7 (d::l)=d::l:=by simpa using f
  cases q with
  | zero=>
   have:c=e:=by simpa using a
   subst this;exact⟨λb=>by omega,λb=>by omega⟩
  | succ q=>
   have:=i j q e (by simpa using a)
   exact⟨λb=>by have:=this.1 b;simp at this ⊢;omega,λ_=>by omega⟩
 | case4 c d l m k i=>
  intro f q e a;have j:b7 l=l:=by simpa using f
  match q,a with
  | 0,a=>
   have:c=e:=by simpa using a
   subst this;refine⟨λ_=>by simp,λg=>?_⟩;simp[j6] at k
   omega
  | 1,a=>
   have:d=e:=by simpa using a
   subst this;refine⟨λb=>?_,λ_=>by omega⟩;simp[j6] at k
   omega
  | q+2,a=>
   have:=i j q e (by simpa using a)
   exact⟨λb=>by have:=this.1 b;simp;omega,λ_=>by omega⟩
 | case5 c d l m k i=>
  intro f q e a;have n:hp c.at_=c/\b7 (d::l)=d::l:=by simpa using f
  cases q with
  | zero=>
   have:c=e:=by simpa using a
   subst this;have o:c.half=0:=by rw[<-n.1];rfl
   exact⟨λb=>by omega,λb=>by omega⟩
  | succ q=>
   have:=i n.2 q e (by simpa using a)
   exact⟨λb=>by have:=this.1 b;simp at this ⊢;omega,λ_=>by omega⟩
def gI{c:aL}(a:q[j]? = some c): (bW.all q).set (j*8+1) (bU E)=bW.all (gH q j E):=by
 have:=b1.rx bW (j:=1) (a':=uT c E) (v:=bU E) a aW rfl
 rw[gH,a];exact this
def Pe(s l:Int)(n: (aG e [ad s] 3).pred a)(C: (aG k [.int .i32 l] 21).pred a)
 (o:Value) (j:List aL) (F: (ep o j).pred a) (S:j.length<=1000000) (G:b7 j=j) (H: ∀c∈j,c.more.length<=1000000) (D: ∀E∈o.ownBlock.toList,E≠e/\E≠k):Calls prog 470 ([]++[o]++[ptr e,ptr k]).toArray a (d_ o (eq j s l) a):=by
 have T:e∉o.ownBlock.toList:=λu=>(D _ u).1 rfl
 have U:k∉o.ownBlock.toList:=λu=>(D _ u).2 rfl
 have V:=uP l
 refine calls (n:=63) func470 rfl ntmps470 rfl ?_;refine dh (H':=ag a o.ownBlock.toList [ep o j]) (jd Has.head λW X I Y Z Za J=>?_) (Sub.refl _)<|uY F;subst I;refine ap ?_;refine bb bY rfl rfl (λm i=>i.cc n bR rfl)<|aA ?_;refine bl 7 rfl (λv=>?_) λv=>?_
 ·have K:=bg v
  refine lB ?_;intro p f;exact d_.of rfl f bw (by rw[eq,aB aa])<|gS _ _ _;all_goals have g: ((y:Int)).toNat=y:=gw y
  all_goals first | exact d_.of rfl f gB (by rw[eq,ai aa,g,b];dsimp only;rw[aB aa]) (gS _ _ _) | exact d_.of rfl f gB (by rw[eq,ai aa,g,b];dsimp only;rw[ai aa,aB aa]) (gS _ _ _) | skip
  all_goals first | exact d_.of rfl f gB (by rw[eq,ai aa,g,b];dsimp only;rw[ai aa,ai aa,aB aa];exact (a_ (List.set · (y*8+1) (Value.string<|bs<|c.more++dk l))<|gI h).trans<|gI (c:=c)<|by rw[gH,h];dsimp only;rw[ks aa];exact b) (gS _ _ _) | exact d_.of rfl f gB (by rw[eq,ai aa,g,b];dsimp only;rw[ai aa,ai aa,ai aa,aB aa];exact (a_ (List.set · (y*8+1) (Value.string<|bs<|c.more++dk l))<|gI h).trans<|gI (c:=c)<|by rw[gH,h];dsimp only;rw[ks aa];exact b) (gS _ _ _) | exact d_.of rfl f gB (by rw[eq,ai aa,g,b];dsimp only;rw[ai aa,ai aa,ai aa,ai aa];exact gI b)<|gS _ _ _
 ·have K:=bm v
  refine av ?_;refine bb bY rfl rfl (λm i=>i.cc n bR rfl)<|aY ?_;refine bl 13 rfl (λw=>?_) λw=>?_
  ·have L:=bg w
   refine gQ ?_;intro p f;exact d_.of rfl f bw (by rw[eq,aB aa])<|gS _ _ _;all_goals have g: ((y:Int)).toNat=y:=gw y
   all_goals first | exact d_.of rfl f gB (by rw[eq,ai aa,g,b];dsimp only;rw[aB aa]) (gS _ _ _) | exact d_.of rfl f gB (by rw[eq,ai aa,g,b];dsimp only;rw[ai aa,aB aa]) (gS _ _ _) | skip
   all_goals first | exact d_.of rfl f gB (by rw[eq,ai aa,g,b];dsimp only;rw[ai aa,ai aa,aB aa];exact (a_ (List.set · (y*8+1) (Value.string<|bs<|c.more++dk l))<|gI h).trans<|gI (c:=c)<|by rw[gH,h];dsimp only;rw[ks aa];exact b) (gS _ _ _) | exact d_.of rfl f gB (by rw[eq,ai aa,g,b];dsimp only;rw[ai aa,ai aa,ai aa,aB aa];exact (a_ (List.set · (y*8+1) (Value.string<|bs<|c.more++dk l))<|gI h).trans<|gI (c:=c)<|by rw[gH,h];dsimp only;rw[ks aa];exact b) (gS _ _ _) | exact d_.of rfl f gB (by rw[eq,ai aa,g,b];dsimp only;rw[ai aa,ai aa,ai aa,ai aa];exact gI b)<|gS _ _ _
  ·have L:=bm w
   refine ap ?_;refine bb bY rfl rfl (λm i=>i.cc n bR rfl) ?_;obtain⟨Zb,rfl⟩:=J aa;obtain⟨y,rfl⟩ : ∃y:Nat,s=(y:Int):=⟨s.toNat,aa⟩;obtain⟨c,b⟩ : ∃c,j[y]? = some c:=⟨j[y]'aa,bD _⟩;have Zc:=H c<|cR b
   have x:=zl G y c b
   refine av ?_;refine bE (q:=y) dj rfl rfl rfl rfl aa aa<|ap ?_;refine bb h_ rfl rfl (λm i=>i.mH (E:=bW) bw b 0 _ rfl)<|a7 ?_;refine bl 21 rfl (λz=>?_) λz=>?_
   ·have M:=bg z
    refine be ?_;intro p f;all_goals have g: ((y:Int)).toNat=y:=gw y
    all_goals exact d_.of rfl f bw (by rw[eq,ai aa,g,b];dsimp only;rw[aB aa])<|gS _ _ _
    all_goals first | exact d_.of rfl f gB (by rw[eq,ai aa,g,b];dsimp only;rw[ai aa,ai aa,aB aa];exact (a_ (List.set · (y*8+1) (Value.string<|bs<|c.more++dk l))<|gI h).trans<|gI (c:=c)<|by rw[gH,h];dsimp only;rw[ks aa];exact b) (gS _ _ _) | exact d_.of rfl f gB (by rw[eq,ai aa,g,b];dsimp only;rw[ai aa,ai aa,ai aa,aB aa];exact (a_ (List.set · (y*8+1) (Value.string<|bs<|c.more++dk l))<|gI h).trans<|gI (c:=c)<|by rw[gH,h];dsimp only;rw[ks aa];exact b) (gS _ _ _) | exact d_.of rfl f gB (by rw[eq,ai aa,g,b];dsimp only;rw[ai aa,ai aa,ai aa,ai aa];exact gI b)<|gS _ _ _
   ·have M:=bm z
    refine av ?_;refine bb h_ rfl rfl (λm i=>i.cc C bR rfl)<|av ?_;refine bF (w5 · l) ?_;refine (aE) (λr=>ap ?_) λr=>ap ?_
    ·intro p f
     all_goals have g: ((y:Int)).toNat=y:=gw y
     all_goals exact d_.of rfl f bw (by rw[eq,ai aa,g,b];dsimp only;rw[aB aa])<|gS _ _ _
     all_goals first | exact d_.of rfl f gB (by rw[eq,ai aa,g,b];dsimp only;rw[ai aa,ai aa,aB aa];exact (a_ (List.set · (y*8+1) (Value.string<|bs<|c.more++dk l))<|gI h).trans<|gI (c:=c)<|by rw[gH,h];dsimp only;rw[ks aa];exact b) (gS _ _ _) | exact d_.of rfl f gB (by rw[eq,ai aa,g,b];dsimp only;rw[ai aa,ai aa,ai aa,aB aa];exact (a_ (List.set · (y*8+1) (Value.string<|bs<|c.more++dk l))<|gI h).trans<|gI (c:=c)<|by rw[gH,h];dsimp only;rw[ks aa];exact b) (gS _ _ _) | exact d_.of rfl f gB (by rw[eq,ai aa,g,b];dsimp only;rw[ai aa,ai aa,ai aa,ai aa];exact gI b)<|gS _ _ _
    ·refine bN [0,1,2,3,4,5] 1 [[(6,false,[7,8])]] ?_
     refine av ?_;refine aO rfl (λt q=>(bb bY rfl rfl (λN A=>by subst A;exact q.cc n bR rfl) aJ)) ?_;refine aO rfl (λt q=>(bE (q:=y) dj rfl rfl rfl rfl aa aa aJ))<|av ?_;refine aO rfl (λt q=>(bb oA rfl rfl (λm O=>by subst O;exact q.mH (E:=bW) bw b 1 _ rfl) aJ)) ?_;refine aO rfl (λt q=>(bb h_ rfl rfl (λN A=>by subst A;exact q.cc C bR rfl) aJ)) ?_;refine aA ?_;refine bF (wY · l)<|av ?_;refine aO rfl (λt q=>(eb rfl rfl rfl aa aJ)) ?_;refine (aE) (λP=>ap ?_) λP=>aH ?_
     ·intro p f
      have B:=Decidable.not_not.1 r
      all_goals have g: ((y:Int)).toNat=y:=gw y
      all_goals exact d_.of rfl f bw (by rw[eq,ai aa,g,b];dsimp only;rw[ai aa,aB aa])<|gS _ _ _
      all_goals first | exact d_.of rfl f gB (by rw[eq,ai aa,g,b];dsimp only;rw[ai aa,ai aa,aB aa];exact (a_ (List.set · (y*8+1) (Value.string<|bs<|c.more++dk l))<|gI h).trans<|gI (c:=c)<|by rw[gH,h];dsimp only;rw[ks aa];exact b) (gS _ _ _) | exact d_.of rfl f gB (by rw[eq,ai aa,g,b];dsimp only;rw[ai aa,ai aa,ai aa,aB aa];exact (a_ (List.set · (y*8+1) (Value.string<|bs<|c.more++dk l))<|gI h).trans<|gI (c:=c)<|by rw[gH,h];dsimp only;rw[ks aa];exact b) (gS _ _ _) | exact d_.of rfl f gB (by rw[eq,ai aa,g,b];dsimp only;rw[ai aa,ai aa,ai aa,ai aa];exact gI b)<|gS _ _ _
     ·refine bb bY rfl rfl (λm i=>i.cc n bR rfl)<|bE (q:=y) dj rfl rfl rfl rfl aa aa<|av ?_
      refine bb bY rfl rfl (λm i=>i.mH (E:=bW) bw b 2 _ rfl) ?_;refine (aE) (λQ=>?_) λQ=>?_
      ·obtain⟨d,h⟩ : ∃d,j[y+1]? = some d:=⟨j[y+1]'(x.1 aa),bD _⟩
       have Zd:=x.1 aa
       refine aA ?_;refine bb bY rfl rfl (λm i=>i.cc n bR rfl)<|aA ?_;refine bE (q:=y+1) dj rfl rfl rfl rfl aa aa<|av ?_;refine mE (o:=(y+1)*8+1) oA rfl rfl cJ (by simp[Addr.add_lit]) rfl (by rw[bW.eD];show (y+1)*8+1<j.length*8;omega) ?_;refine aI ?_;refine bb bY rfl rfl (λm i=>i.cc n bR rfl)<|av ?_;refine bE (q:=y) dj rfl rfl rfl rfl aa aa<|av ?_;refine mE (o:=y*8+1) oA rfl rfl cJ (by simp[Addr.add_lit]) rfl (by (rw[gx,bW.eD];show y*8+1<j.length*8;omega)) ?_;refine aA ?_;intro p f;have B:=Decidable.not_not.1 r
       all_goals have g: ((y:Int)).toNat=y:=gw y
       all_goals skip
       all_goals exact d_.of rfl f bw (by rw[eq,ai aa,g,b];dsimp only;rw[ai aa,ai aa,aB aa];exact (a_ (List.set · (y*8+1) (Value.string<|bs<|c.more++dk l))<|gI h).trans<|gI (c:=c)<|by rw[gH,h];dsimp only;rw[ks aa];exact b)<|gS _ _ _
      ·refine (aE) (λR=>?_) λR=>aI ?_
       ·have Ze:=x.2 aa
        obtain⟨d,h⟩ : ∃d,j[y - 1]? = some d:=⟨j[y - 1]'aa,bD _⟩;refine aA ?_;refine bb bY rfl rfl (λm i=>i.cc n bR rfl)<|aA ?_;refine bE (q:=y - 1) dj rfl rfl rfl rfl aa aa<|av ?_;refine mE (o:=(y - 1)*8+1) oA rfl rfl cJ (by simp[Addr.add_lit]) rfl (by rw[bW.eD];show (y - 1)*8+1<j.length*8;omega) ?_;refine aI ?_;refine bb bY rfl rfl (λm i=>i.cc n bR rfl)<|av ?_;refine bE (q:=y) dj rfl rfl rfl rfl aa aa<|av ?_;refine mE (o:=y*8+1) oA rfl rfl cJ (by simp[Addr.add_lit]) rfl (by (rw[gx,bW.eD];show y*8+1<j.length*8;omega)) ?_;refine aA ?_;intro p f;have B:=Decidable.not_not.1 r
        all_goals have g: ((y:Int)).toNat=y:=gw y
        all_goals skip
        all_goals exact d_.of rfl f bw (by rw[eq,ai aa,g,b];dsimp only;rw[ai aa,ai aa,ai aa,aB aa];exact (a_ (List.set · (y*8+1) (Value.string<|bs<|c.more++dk l))<|gI h).trans<|gI (c:=c)<|by rw[gH,h];dsimp only;rw[ks aa];exact b)<|gS _ _ _
       ·refine bb bY rfl rfl (λm i=>i.cc n bR rfl)<|av ?_
        refine bE (q:=y) dj rfl rfl rfl rfl aa aa<|av ?_;refine mE (o:=y*8+1) oA rfl rfl cJ (by simp[Addr.add_lit]) rfl (by (rw[bW.eD];show y*8+1<j.length*8;omega)) ?_;refine aA ?_;intro p f;have B:=Decidable.not_not.1 r
        all_goals have g: ((y:Int)).toNat=y:=gw y
        all_goals skip
        all_goals exact d_.of rfl f bw (by rw[eq,ai aa,g,b];dsimp only;rw[ai aa,ai aa,ai aa,ai aa];exact gI b)<|gS _ _ _
def Chunk.df{a:World}(b:F.pred p)(d:Ext [] p a):F.pred a:=F.loc p a (λc e=>d.block c (F.low p b c e) au) b
abbrev kM(a:World):=gr (λb:Value=>b) (ep · c) (λ_=>True) a
def tg(j r:Nat)(b:List aL)(s:Rd bW a g f j r b)(H:j<=1000000)(i:List aL->List aL)(m:FuncId)(n:List Value)(u:dX prog m)(v: ∀t,(i t).length=t.length)
 (w: ∀d l,Ext [] a d->(∀k∈l.ownBlock.toList,a.heap.size<=k)->(ep l<|b7 b).pred d->Calls prog m ([]++[l]++n).toArray d (d_ l (i<|b7 b) d)):
 ay 87 [.slice f j r,.func (.func m) [].toArray n.toArray] a (kM (cX i b) a):=by
 have I:=s.len
 have x:=hq b
 have J:=v<|b7 b
 refine ba func87 ntmps87 ?_;refine lz 81 8<|aY ?_;refine qj (E:=bW) dj rfl rfl rfl (λ_=>by exact cJ) (λd e=>s.ext e.ext au) (by simp only[maxLen];omega) aa λc y=>?_;refine a7 ?_;have z: ∀k∈c.ownBlock.toList,a.heap.size<=k:=λA B=>by
  rcases y A (by simpa using B) with h | h
  simp[Value.ownBlock] at h
  exact h.1
 have C:0+j=b.length:=by omega
 rw[C];refine dh (H':=ag a [] [ep c b]) (aA ?_) (Sub.refl _) λK D=>D;refine sU (v:= .tuple #[]) (c:=ep c b) (c':=ep c<|b7 b) cJ rfl (λd e=>(y9 d c b (e.has Has.head) aa).mono ?_) ?_;rintro E F ⟨o,p,q⟩;exact⟨o,p,Cj q rfl x⟩;refine aH ?_;refine O7 (first:=[]) (cap:=n) (v:= .tuple #[]) (c:=ep c<|b7 b) (c':=ep c<|i<|b7 b) rfl rfl u rfl cJ rfl (wF _ _ _ _ _) (λd e=>w d c e.ext z<|e.has Has.head)<|aI ?_;refine sU (v:= .tuple #[]) (c:=ep c<|i<|b7 b) (c':=ep c<|cX i b) cJ rfl (λd e=>(y9 d c (i<|b7 b) (e.has Has.head) aa).mono ?_) ?_;rintro E F ⟨o,p,q⟩;exact⟨o,p,Cj q rfl<|hq _⟩;refine be ?_;exact λL G=>gr.of c bh G
def Pf(i l:Nat)(j:List aL)(q:Rd bW a g f i l j)(r:i<=1000000)(c d:Int)(e:dH):
 ay 360 [.slice f i l,ad c,.int .i32 d,.agg e.enc.toArray] a (kM (cX (gZ · c d e) j) a):=by
 have w:=q.len
 refine ba func360 ntmps360 ?_;refine ap ?_;intro x y z;refine av ?_;intro A B C;refine av ?_;intro D E F;refine aU ?_;refine hf (ι:=Value) (c':=λm=>ep m<|cX (gZ · c d e) j) (hargs:=rfl) (λs b=>tg s g f i l j (q.ext b.ext au) r (gZ · c d e) _ [ptr _,ptr _,ptr _] cL (tf · c d e) λt m n o u=>O9 t _ _ _ c d e (Chunk.df _ (b.has cz) n) (Chunk.df _ (b.has cW) n) (Chunk.df _ (b.has bw) n) m _ u (by rw[hq];omega) λk p=>⟨λh=>by have:=o k p;have:=b.lt (k:=k) (by subst h;simp[aK,aG]);omega,λh=>by have:=o k p;have:=b.lt (k:=k) (by subst h;simp[aK,aG]);omega,λh=>by have:=o k p;have:=b.lt (k:=k) (by subst h;simp[aK,aG]);omega⟩) λG _=>?_;refine aI ?_;exact λH v=>gr.of _ bh<|v.aF ah
def Pg(h j:Nat)(i:List aL)(p:Rd bW a g f h j i)(q:h<=1000000)(c d aq aR:Int):
 ay 357 [.slice f h j,ad c,ad d,.agg [ad aq,ad aR].toArray] a (kM (cX (hE · c d aq aR) i) a):=by
 have v:=p.len
 refine ba func357 ntmps357 ?_;refine ap ?_;intro w x y;refine av ?_;intro z A B;refine av ?_;intro C D E;refine aU ?_;refine hf (ι:=Value) (c':=λl=>ep l<|cX (hE · c d aq aR) i) (hargs:=rfl) (λr b=>tg r g f h j i (p.ext b.ext au) q (hE · c d aq aR) _ [ptr _,ptr _,ptr _] cL (zk · _ _ _ _) λs l m n t=>Pb s _ _ _ c d aq aR (Chunk.df _ (b.has cW) m) (Chunk.df _ (b.has cz) m) (Chunk.df _ (b.has bw) m) l _ t (by rw[hq];omega) λk o=>⟨λe=>by have:=n k o;have:=b.lt (k:=k) (by subst e;simp[aK,aG]);omega,λe=>by have:=n k o;have:=b.lt (k:=k) (by subst e;simp[aK,aG]);omega,λe=>by have:=n k o;have:=b.lt (k:=k) (by subst e;simp[aK,aG]);omega⟩) λF _=>?_;refine aI ?_;exact λG u=>gr.of _ bh<|u.aF ah
def Ph(h j:Nat)(i:List aL)(p:Rd bW a g f h j i)(q:h<=1000000)(c d aq aR:Int):
 ay 422 [.slice f h j,ad c,ad d,.agg [ad aq,ad aR].toArray] a (kM (cX (insertC · c d aq aR) i) a):=by
 have v:=p.len
 refine ba func422 ntmps422 ?_;refine ap ?_;intro w x y;refine av ?_;intro z A B;refine av ?_;intro C D E;refine aU ?_;refine hf (ι:=Value) (c':=λl=>ep l<|cX (insertC · c d aq aR) i) (hargs:=rfl) (λr b=>tg r g f h j i (p.ext b.ext au) q (insertC · c d aq aR) _ [ptr _,ptr _,ptr _] cL (uV · _ _ _ _) λs l m n t=>Pc s _ _ _ c d aq aR (Chunk.df _ (b.has cW) m) (Chunk.df _ (b.has cz) m) (Chunk.df _ (b.has bw) m) l _ t (by rw[hq];omega) λk o=>⟨λe=>by have:=n k o;have:=b.lt (k:=k) (by subst e;simp[aK,aG]);omega,λe=>by have:=n k o;have:=b.lt (k:=k) (by subst e;simp[aK,aG]);omega,λe=>by have:=n k o;have:=b.lt (k:=k) (by subst e;simp[aK,aG]);omega⟩) λF _=>?_;refine aI ?_;exact λG u=>gr.of _ bh<|u.aF ah
def Pi(h j:Nat)(i:List aL)(p:Rd bW a g f h j i)(q:h<=1000000)(c d aq aR:Int):
 ay 435 [.slice f h j,ad c,ad d,.agg [ad aq,ad aR].toArray] a (kM (cX (kL · c d aq aR) i) a):=by
 have v:=p.len
 refine ba func435 ntmps435 ?_;refine ap ?_;intro w x y;refine av ?_;intro z A B;refine av ?_;intro C D E;refine aU ?_;refine hf (ι:=Value) (c':=λl=>ep l<|cX (kL · c d aq aR) i) (hargs:=rfl) (λr b=>tg r g f h j i (p.ext b.ext au) q (kL · c d aq aR) _ [ptr _,ptr _,ptr _] cL (uW · _ _ _ _) λs l m n t=>Pd s _ _ _ c d aq aR (Chunk.df _ (b.has cW) m) (Chunk.df _ (b.has cz) m) (Chunk.df _ (b.has bw) m) l _ t (by rw[hq];omega) λk o=>⟨λe=>by have:=n k o;have:=b.lt (k:=k) (by subst e;simp[aK,aG]);omega,λe=>by have:=n k o;have:=b.lt (k:=k) (by subst e;simp[aK,aG]);omega,λe=>by have:=n k o;have:=b.lt (k:=k) (by subst e;simp[aK,aG]);omega⟩) λF _=>?_;refine aI ?_;exact λG u=>gr.of _ bh<|u.aF ah
def zm(i: ∀c,G c->G (hp c.at_)): ∀{g:List aL},(∀c∈g,G c)-> ∀c∈b7 g,G c:=by
 intro g;fun_induction b7 g with
 | case1=>intro a;exact a
 | case2 c=>
  intro a h j;rw[e0] at j
  subst j;split
  exact a c au;exact i c<|a c au
 | case3 c h k l b=>
  intro a d he;rcases eJ.1 he with rfl | he
  exact a _ au;exact b (λe f=>a e<|by simp[eJ.1 f]) d he
 | case4 c h k l m b=>
  intro a d he;rcases eJ.1 he with rfl | he
  exact a _ au;rcases eJ.1 he with rfl | he
  exact a _ au;exact b (λe f=>a e<|by simp[f]) d he
 | case5 c h k l m b=>
  intro a d he;rcases eJ.1 he with rfl | he
  exact i c<|a c au;exact b (λe f=>a e<|by simp[eJ.1 f]) d he
def Pj(i e:Nat)(b:List aL)(m:Rd bW a g f i e b)(q:i<=1000000)(r: ∀e∈b,e.more.length<=1000000)(c d:Int):
 ay 418 [.slice f i e,ad c,.int .i32 d] a (kM (cX (eq · c d) b) a):=by
 have w:=m.len
 refine ba func418 ntmps418 ?_;refine ap ?_;intro x y z;refine av ?_;intro A B C;refine aU ?_;refine hf (ι:=Value) (c':=λj=>ep j<|cX (eq · c d) b) (hargs:=rfl) (λs h=>tg s g f i e b (m.ext h.ext au) q (eq · c d) _ [ptr _,ptr _] cL (gS · c d) λt j n o u=>Pe t _ _ c d (Chunk.df _ (h.has cz) n) (Chunk.df _ (h.has bw) n) j _ u (by rw[hq];omega) (ta b) (zm (λ_ _=>b4 _) r) λk p=>⟨λl=>by have:=o k p;have:=h.lt (k:=k) (by subst l;simp[aK,aG]);omega,λl=>by have:=o k p;have:=h.lt (k:=k) (by subst l;simp[aK,aG]);omega⟩) λD _=>?_;refine aI ?_;exact λE v=>gr.of _ bh<|v.aF ah
def Pk(b c:Nat)(d:List aL)(h:Rd bW a g f b c d)(i:b<=1000000):
 ay 471 [.slice f b c] a (kM (cX mW d) a):=by
 have o:=h.len
 refine ba func471 ntmps471 ?_;refine aY ?_;refine hf (ι:=Value) (vs:=[.slice f b c,.func (.func 491) [].toArray [].toArray]) (c':=λe=>ep e<|cX mW d) (hargs:=rfl) (λj k=>tg j g f b c d (h.ext k.ext au) i mW _ [] cL zj λl e p q m=>O8 l e _ m<|by rw[hq];omega) λr _=>?_;refine aI ?_;exact λs n=>gr.of _ bh<|n.aF ah
def Hb(b c:Nat)(d:List aL)(i:Rd bW a g f b c d)(j:b<=1000000):
 ay 30 [.slice f b c] a (kM (cX id d) a):=by
 have p:=i.len
 refine ba func30 ntmps30 ?_;refine aY ?_;refine hf (ι:=Value) (vs:=[.slice f b c,.func (.func 88) [].toArray [].toArray]) (c':=λe=>ep e<|cX id d) (hargs:=rfl) (λk l=>tg k g f b c d (i.ext l.ext au) j id _ [] cL (λ_=>rfl) λm e q r n=>(GR m e).mono λs t h=>⟨h.1,h.2.mono au,Chunk.df _ n h.2⟩) λu _=>aI ?_;exact λv o=>gr.of _ bh<|o.aF ah
structure b8 where
 jK:List bq
 room:Int
 cY:List bq
 al:Int
 g_:List fb
def rO(a:Int):bq:=(List.replicate m.toNat<|hr u a,false)
def l7(a:b8)(b:Int)(c:bq->bq):b8:=
 if 0<=b/\b<a.cY.length then { a with cY:=a.cY.modify b.toNat c } else a
def l8(b:b8)(c:Int)(d:List aL->List aL):b8:=l7 b c λa=>(d a.1,a.2)
def iS(a:b8)(c:Int)(b:Bool):b8:=l7 a c λd=>(d.1,b)
def gD(a:b8)(b c n:Int):b8:={ a with g_:=a.g_++[⟨b,c,n⟩] }
def th(a:b8)(b c d:Int)(e:dH):b8:=l8 a b<|cX (gZ · c d e)
def uZ(a:b8)(b c d:Int):b8:=l8 a b<|cX (eq · c d)
def w7(a:b8)(b:Int):b8:=l8 a b<|cX mW
def u0(a:b8)(b c n d e:Int):b8:=l8 a b<|cX (insertC · c n d e)
def zn(a:b8)(b c n d e:Int):b8:=l8 a b<|cX (kL · c n d e)
def eraseP(c:b8)(a d b f g:Int):b8:=
 if 0<=a/\a<c.cY.length then
  let e:=l8 c a<|cX (hE · d b f g)
  if d<c.al/\c.al<=b then (if d<=0 then iS (iS e (a+1) false) a false else iS e (a+1) false) else e
 else c
structure dF (p:b8):Prop where
 al:2<=p.al/\p.al<=1000
 rows:1<=p.cY.length/\p.cY.length<=1000
 wide: ∀r∈p.cY,(r.1.length:Int)=p.al/\ ∀c∈r.1,c.more.length<=32
 oM: ∀r∈p.jK,(r.1.length:Int)=p.al/\ ∀c∈r.1,c.more.length<=32
 room: (p.jK.length:Int)<=p.room/\p.room<=100000
def bQ.abs :b8:=⟨h.r.rows,h.r.room,b2 h.s.l,h.al,h.bu.l⟩
def jj(b:b8)(c:World):Ending->World->Prop:=aX (λ_:bQ=>Value.tuple #[]) (b9 h) b9 (λa=>a.g=h.g/\dx a.r/\a.abs=b) c
def ag.apart{b:World}{S:List Nat}{cs l:List Chunk}(e:ag b S cs p)(f:aP cs l i){c:Chunk}(g:Has i c): ∀a∈c.cT,a∉aK l:=by
 have d:=(e.perm f.perm).nodup
 rw[jb] at d
 exact λa h j=>(gO.1 d).2.2 a j a (er.2 ⟨c,g.mem,h⟩) rfl
def setRow :bQ:={ h with s:={ h.s with l:=h.s.l.set e H } }
def Cm{a b:b_}(c:h.s.l[j]? = some a){f:bq->bq}(e:f a.fI=b.fI): (setRow h j b).abs=l7 h.abs (j:Int) f:=by
 have g:=(cH.1 c).1
 have i: (0 :Int)<=(j:Int)/\(j:Int)<h.abs.cY.length:=⟨aa,by simp[bQ.abs,b2];omega⟩
 unfold l7;rw[aB i];simp only[bQ.abs,setRow,b8.mk.injEq,true_and,and_true,gw];apply jY
 intro k;rw[List.getElem?_modify];simp only[b2,fw,nB];by_cases d:j=k
 subst d;have m:=(cH.1 c).2
 simp[g,m,e]
 simp[d]
def Pl{b w:World}{S:List Nat}{cs:List Chunk}{a:b_}(c:v.s.l[j]? = some a)(d:ag b S cs w)
 (e:aP cs [ep (.slice I q.length x) q,v.s.cw,v.aq,aZ<|cP v.r,own 39 2 v.s.val v.s.l.length<|(cx.all v.s.l).set (j*2)<|.slice I q.length x,v.bu.aD] i):ag b S (b9<|setRow v j ⟨I,x,a.cont,q⟩) w:=by
 have f:=d.aF e
 have g:=f.Cf (k:=j) (c:=a.aQ) (by simp[c])
 have h:=b1.rx cx (j:=0) (a':=⟨I,x,a.cont,q⟩) (v:= .slice I q.length x) c aW rfl
 have k:b9 (setRow v j ⟨I,x,a.cont,q⟩)=[v.aq,aZ<|cP v.r,own 39 2 v.s.val v.s.l.length<|(cx.all v.s.l).set (j*2)<|.slice I q.length x,aZ<|(v.s.l.map b_.aQ).set j<|ep (.slice I q.length x) q,v.bu.aD]:=by
  have m:cx.all (v.s.l.set j ⟨I,x,a.cont,q⟩)=(cx.all v.s.l).set (j*2) (.slice I q.length x):=h.symm
  simp only[b9,setRow,bQ.aq,qv,dz.val,dz.aD,dz.cw,gx,m,p6]
 rw[k];exact g.aF ah
def Hc{b w:World}{S:List Nat}{cs:List Chunk}{a:b_}(d:v.s.l[j]? = some a)(e:ag b S cs w)
 (f:aP cs [v.aq,aZ<|cP v.r,own 39 2 v.s.val v.s.l.length<|(cx.all v.s.l).set (j*2+1)<|.bool J,v.s.cw,v.bu.aD] i):ag b S (b9<|setRow v j ⟨a.A,a.c,J,a.cells⟩) w:=by
 have g:=e.aF f
 have h:=b1.rx cx (j:=1) (a':=⟨a.A,a.c,J,a.cells⟩) (v:= .bool J) d aW rfl
 have k:=(cH.1 d).1
 have m:=(cH.1 d).2
 have n:b9 (setRow v j ⟨a.A,a.c,J,a.cells⟩)=[v.aq,aZ<|cP v.r,own 39 2 v.s.val v.s.l.length<|(cx.all v.s.l).set (j*2+1)<|.bool J,v.s.cw,v.bu.aD]:=by
  have o:cx.all (v.s.l.set j ⟨a.A,a.c,J,a.cells⟩)=(cx.all v.s.l).set (j*2+1) (.bool J):=h.symm
  have p: (v.s.l.set j ⟨a.A,a.c,J,a.cells⟩).map b_.aQ=v.s.l.map b_.aQ:=by
   rw[p6];have:b_.aQ ⟨a.A,a.c,J,a.cells⟩=(v.s.l.map b_.aQ)[j]'(by simpa using k):=by
    rw[List.getElem_map,m]
   rw[this,List.set_getElem_self]
  simp only[b9,setRow,bQ.aq,qv,dz.val,dz.aD,dz.cw,gx,o,p]
 rw[n];exact g
def Pm{ι:Type}{first cap:List Value}{e:ι->Value}{c':ι->Chunk}{g:ι->Prop}(hd:Nat.blt d n=true)(f:bi l r=some (.func (.func M) first.toArray cap.toArray))(hcb:dX P M)(hargs:db l K=some o)
 (i: ∀c,ag b S cs c->Calls P M (first++o++cap).toArray c (gr e c' g c))
 (j: ∀a,g a->aM P n ops Q rest ((d,e a)::l) (ag b S<|c' a::cs)):
 aM P n ops Q (⟨some d,.call ⟨.value r,K.toArray,L⟩,ty,pos,bf,none⟩::rest) l (ag b S cs):=by
 refine iw f (hd:=hd) (hcb:=hcb) (hargs:=hargs) λc h=>?_
 have:=i c h
 simp only[List.append_toArray];refine this.mono ?_;rintro s t ⟨a,k,rfl,m,p,f,q⟩;exact⟨e a,rfl,(j a k).at<|h.add m p f q⟩
def ag.zo{E:b1 N}(e:ag b S cs p){c:List N}(f:Has cs (own j E.ax w z<|E.all c))(g:w= .slice (some ⟨x,0,none⟩) z A){d:N}(h:c[B]? = some d)(a:Nat)(u:Value)(i: (E.enc d)[a]? = some u):
 p.cell? (((⟨x,0,none⟩ :Addr).add<|B*E.ax).add a)=some u:=by
 subst g;exact e.mH f h a u i
def Cn{a v0:Value}{o:Nat}{c:List Value}(d:v0= .slice (some ⟨B,0,none⟩) A D)(e:dm P j w)(f:bi l r=some (.pointer<|some y))(g:bi l C=some a)(h:bC cs (own x z v0 A c) (own x z v0 A<|c.set o a) i)(k:y=⟨B,o,none⟩)
 (m:a.oneCell'=true) (p:o<c.length)
 (q:aM P n ops Q rest l (ag b S i)):aM P n ops Q (⟨none,.store j r C,ty,pos,bf,none⟩::rest) l (ag b S cs):=by
 subst d;exact mE e f g h k m p q
def zp{d a:List Value}{v0:Value}{e o:Nat}{c:List Value}(f:v0= .slice (some ⟨D,0,none⟩) B e)(g:de P j x d)(h:bi l r=some (.pointer<|some y))(k:bi l C=some (.agg a.toArray))(m:bC cs (own z A v0 B c) (own z A v0 B<|dJ c o a) i)(p:y=⟨D,o,none⟩)
 (q:a.length=x) (s:aV a) (t:o+a.length<=c.length)
 (u:aM P n ops Q rest l (ag b S i)):aM P n ops Q (⟨none,.store j r C,ty,pos,bf,none⟩::rest) l (ag b S cs):=by
 subst f;exact oy g h k m p q s t u
def ti{r:dz}(b:r.aD.pred p)(e:0<r.l.length): ∃a,r.A=some ⟨a,0,none⟩:=by
 rcases b.2 with ⟨_,f⟩ | ⟨a,g,h,c,_⟩
 omega
 injection c with d i j
 exact⟨a,d⟩
def u1(t:bc a (b9 h))(u:dx h.r)(F:dF h.abs)(e:Int)(f:List aL->List aL)(k:FuncId)(m:List Value)(G:dX prog k)
 (H: ∀i (b:b_) I,ag a (aK<|b9 h) (b9 h) i->b∈h.s.l->Rd bW i I b.A b.cells.length b.c b.cells->Calls prog k ([]++[b.val]++m).toArray i (kM (f b.cells) i)):
 ay 355 [ptr h.g,ad e,.func (.func k) [].toArray m.toArray] a (jj h (l8 h.abs e f) a):=by
 have J:=F.rows
 simp only[bQ.abs,b2,c8] at J
 obtain⟨b,n⟩:=ti (r:=h.s) (t.all _ au) aa;have v:h.s.val= .slice (some ⟨b,0,none⟩) h.s.l.length h.s.c:=by rw[dz.val,n]
 refine bX func355 ntmps355 t ?_;refine a7 ?_;refine cU (uS · h · e) ?_;refine (aE) (λK=>?_) λK=>aA ?_;obtain⟨d,rfl⟩ : ∃d:Nat,e=(d:Int):=⟨e.toNat,aa⟩;obtain⟨z,j⟩ : ∃z,h.s.l[d]? = some z:=⟨h.s.l[d]'aa,bD _⟩;have w:=cR j
 refine bN [0,1,2,3,4,5,6,7,8,9,10,11,12,13] 2 [[(14,false,[15,16]),(17,true,[])]] ?_;refine bP ?_;refine aO rfl (λx o=>(bE (q:=d) dy rfl rfl rfl n aa aa aJ))<|av ?_;refine aO rfl (λx o=>(bb j3 rfl rfl (λS p=>by subst p;exact o.zo (E:=cx) cW v j 0 _ rfl) aJ)) ?_;refine aA ?_;refine Pm (ι:=Value) (first:=[]) (cap:=m) (c':=λL=>ep L<|f z.cells) rfl rfl G rfl (λy B=>by obtain⟨C,D,p,M⟩:=w0 (v:=z.val) (L:=z.cells)<|(B.has hL:h.s.cw.pred y) z.aQ<|ei.2 ⟨z,w,rfl⟩;injection p with N _ O;subst N O;exact H y z _ B w M) λP _=>?_;refine cv (λ_=>True) (λ_ E=> .inr<|E.rem bH.head) (λ_ E=>bh) ?_;refine aO rfl (λx o=>(bE (q:=d) dy rfl rfl rfl n aa aa aJ))<|ap ?_;refine kA (e:=81) (sz:=8) (v:=P) bw λC D Q _ _ _ _=>?_;subst Q;refine Cn v (o:=d*2) j3 rfl rfl oH (by simp[Addr.add_lit]) rfl (by rw[cx.eD];show d*2<h.s.l.length*2;omega) ?_;refine a7 ?_;intro R q
 (refine aX.cf (i:=setRow h d ⟨C,D,z.cont,f z.cells⟩) ⟨rfl,u,?_⟩ rfl<|Pl j q ah;exact Cm h j rfl)
 exact λR q=>aX.cf (i:=h) ⟨rfl,u,by rw[l8,l7,ai<|by simp[bQ.abs,b2];omega]⟩ rfl q
def rP(f:bc a (b9 h))(i:dx h.r)(m:dF h.abs)(d:Int):
 ay 358 [ptr h.g,ad d] a (jj h (iS h.abs d false) a):=by
 have n:=m.rows
 simp only[bQ.abs,b2,c8] at n
 obtain⟨o,j⟩:=ti (r:=h.s) (f.all _ au) aa;have p:h.s.val= .slice (some ⟨o,0,none⟩) h.s.l.length h.s.c:=by rw[dz.val,j]
 refine bX func358 ntmps358 f ?_;refine a7 ?_;refine cU (uS · h · d) ?_;refine (aE) (λq=>?_) λq=>aA ?_;obtain⟨b,rfl⟩ : ∃b:Nat,d=(b:Int):=⟨d.toNat,aa⟩;obtain⟨z,k⟩ : ∃z,h.s.l[b]? = some z:=⟨h.s.l[b]'aa,bD _⟩;refine aH ?_;refine bE (q:=b) dy rfl rfl rfl j aa aa<|av ?_;refine Cn p (o:=b*2+1) pf rfl rfl l4 (by simp[Addr.add_lit]) rfl (by rw[cx.eD];show b*2+1<h.s.l.length*2;omega) ?_;refine aA ?_;intro t e
 (refine aX.cf (i:=setRow h b ⟨z.A,z.c,false,z.cells⟩) ⟨rfl,i,?_⟩ rfl<|Hc k e ah;exact Cm h k rfl)
 exact λt e=>aX.cf (i:=h) ⟨rfl,i,by rw[iS,l7,ai<|by simp[bQ.abs,b2];omega]⟩ rfl e
def Pn(f:bc a (b9 h))(i:dx h.r)(m:dF h.abs)(d:Int):
 ay 420 [ptr h.g,ad d] a (jj h (iS h.abs d true) a):=by
 have n:=m.rows
 simp only[bQ.abs,b2,c8] at n
 obtain⟨o,j⟩:=ti (r:=h.s) (f.all _ au) aa;have p:h.s.val= .slice (some ⟨o,0,none⟩) h.s.l.length h.s.c:=by rw[dz.val,j]
 refine bX func420 ntmps420 f ?_;refine a7 ?_;refine cU (uS · h · d) ?_;refine (aE) (λq=>?_) λq=>aA ?_;obtain⟨b,rfl⟩ : ∃b:Nat,d=(b:Int):=⟨d.toNat,aa⟩;obtain⟨z,k⟩ : ∃z,h.s.l[b]? = some z:=⟨h.s.l[b]'aa,bD _⟩;refine aH ?_;refine bE (q:=b) dy rfl rfl rfl j aa aa<|av ?_;refine Cn p (o:=b*2+1) pf rfl rfl l4 (by simp[Addr.add_lit]) rfl (by rw[cx.eD];show b*2+1<h.s.l.length*2;omega) ?_;refine aA ?_;intro t e
 (refine aX.cf (i:=setRow h b ⟨z.A,z.c,true,z.cells⟩) ⟨rfl,i,?_⟩ rfl<|Hc k e ah;exact Cm h k rfl)
 exact λt e=>aX.cf (i:=h) ⟨rfl,i,by rw[iS,l7,ai<|by simp[bQ.abs,b2];omega]⟩ rfl e
def qx(c:dF v.abs){a:b_}(f:a∈v.s.l):a.cells.length<=1000000/\ ∀b∈a.cells,b.more.length<=1000000:=by
 have d:=c.wide a.fI (by simp only[bQ.abs,b2];exact ei.2 ⟨a,f,rfl⟩)
 have e:=c.al
 exact⟨by have:=d.1;simp only at this;omega,λb e=>by have:=d.2 b e;omega⟩
def Po(l:Nat)(d f:Int)(g:dH)(p: (aG e [ad d] 3).pred a)(q: (aG k [.int .i32 f] 21).pred a)(r: (aG l g.enc 79).pred a)(m:Nat->Prop)(h:Option Addr)(i j:Nat)(b:List aL)(n:Rd bW a m h i j b)(z:b.length<=1000000):
 Calls prog 359 ([]++[Value.slice h i j]++[ptr e,ptr k,ptr l]).toArray a (kM (cX (gZ · d f g) b) a):=by
 have A:=n.len
 refine ba func359 ntmps359 ?_;refine aY ?_;refine bb bY rfl rfl (λo c=>c.cc p (by (simp;done)) rfl) ?_;refine bb h_ rfl rfl (λo c=>c.cc q (by (simp;done)) rfl) ?_;refine cE s3 rfl rfl rfl (λo c s t u=>c.kK (sz:=5) r (by (simp;done)) rfl s t u) ?_;refine hf (ι:=Value) (c':=λv=>ep v<|cX (gZ · d f g) b) (λw x=>Pf w m h i j b (n.ext x.ext au) aa d f g) λB _=>?_;refine aI ?_;exact λC y=>gr.of _ bh y
def Hd(k:bc a (b9 h))(l:dx h.r)(j:dF h.abs)(f c d:Int)(e:dH):
 ay 269 [ptr h.g,ad f,ad c,.int .i32 d,.agg e.enc.toArray] a (jj h (th h.abs f c d e) a):=by
 refine bX func269 ntmps269 k ?_;refine ap ?_;intro t u v;refine av ?_;intro w x y;refine av ?_;intro z A B;refine aH ?_;refine bK (ι:=bQ) ah (λm b=>u1 m h (b.cb ah) l j f (cX (gZ · c d e)) _ [ptr _,ptr _,ptr _] cL λn C o i p q=>Po n _ _ _ c d e (i.ew (b.has cW)<|b.apart ah cW) (i.ew (b.has cz)<|b.apart ah cz) (i.ew (b.has bw)<|b.apart ah bw) o _ _ _ _ q (qx j p).1) λD E=>?_;refine aA ?_;exact λF s=>aX.cf _ bR rfl<|s.aF ah
def Pp(d f:Int)(m: (aG e [ad d] 3).pred a)(n: (aG k [.int .i32 f] 21).pred a)(j:Nat->Prop)(g:Option Addr)(h c:Nat)(b:List aL)(l:Rd bW a j g h c b)(u:b.length<=1000000)(o: ∀c∈b,c.more.length<=1000000):
 Calls prog 417 ([]++[Value.slice g h c]++[ptr e,ptr k]).toArray a (kM (cX (eq · d f) b) a):=by
 have v:=l.len
 refine ba func417 ntmps417 ?_;refine aY ?_;refine bb bY rfl rfl (λp i=>i.cc m (by (simp;done)) rfl) ?_;refine bb h_ rfl rfl (λp i=>i.cc n (by (simp;done)) rfl) ?_;refine hf (ι:=Value) (c':=λq=>ep q<|cX (eq · d f) b) (λr s=>Pj r j g h c b (l.ext s.ext au) aa o d f) λw _=>?_;refine aI ?_;exact λx t=>gr.of _ bh t
def Pq(k:bc a (b9 h))(l:dx h.r)(e:dF h.abs)(f c d:Int):
 ay 341 [ptr h.g,ad f,ad c,.int .i32 d] a (jj h (uZ h.abs f c d) a):=by
 refine bX func341 ntmps341 k ?_;refine ap ?_;intro s t u;refine av ?_;intro v w x;refine aH ?_;refine bK (ι:=bQ) ah (λm b=>u1 m h (b.cb ah) l e f (cX (eq · c d)) _ [ptr _,ptr _] cL λn y o i j p=>Pp n _ _ c d (i.ew (b.has cz)<|b.apart ah cz) (i.ew (b.has bw)<|b.apart ah bw) o _ _ _ _ p (qx e j).1 (qx e j).2) λz A=>?_;refine aA ?_;exact λB q=>aX.cf _ bR rfl<|q.aF ah
def Pr(cu:Nat)(d f aq aR:Int)(n: (aG e [ad d] 3).pred a)(o: (aG k [ad f] 3).pred a)(p: (aG cu [ad aq,ad aR] 77).pred a)(j:Nat->Prop)(g:Option Addr)(h i:Nat)(b:List aL)(l:Rd bW a j g h i b)(x:b.length<=1000000):
 Calls prog 421 ([]++[Value.slice g h i]++[ptr e,ptr k,ptr cu]).toArray a (kM (cX (insertC · d f aq aR) b) a):=by
 have y:=l.len
 refine ba func421 ntmps421 ?_;refine aY ?_;refine bb bY rfl rfl (λm c=>c.cc n (by (simp;done)) rfl) ?_;refine bb bY rfl rfl (λm c=>c.cc o (by (simp;done)) rfl) ?_;refine cE ib rfl rfl rfl (λm c q r s=>c.kK (sz:=2) p (by (simp;done)) rfl q r s) ?_;refine hf (ι:=Value) (c':=λt=>ep t<|cX (insertC · d f aq aR) b) (λu v=>Ph u j g h i b (l.ext v.ext au) aa d f aq aR) λz _=>?_;refine aI ?_;exact λA w=>gr.of _ bh w
def He(j:bc a (b9 h))(k:dx h.r)(i:dF h.abs)(e c d aq aR:Int):
 ay 343 [ptr h.g,ad e,ad c,ad d,.agg [ad aq,ad aR].toArray] a (jj h (u0 h.abs e c d aq aR) a):=by
 refine bX func343 ntmps343 j ?_;refine ap ?_;intro s t u;refine av ?_;intro v w x;refine av ?_;intro y z A;refine aH ?_;refine bK (ι:=bQ) ah (λl b=>u1 l h (b.cb ah) k i e (cX (insertC · c d aq aR)) _ [ptr _,ptr _,ptr _] cL λm B n f o p=>Pr m _ _ _ c d aq aR (f.ew (b.has cW)<|b.apart ah cW) (f.ew (b.has cz)<|b.apart ah cz) (f.ew (b.has bw)<|b.apart ah bw) n _ _ _ _ p (qx i o).1) λC D=>?_;refine aA ?_;exact λE q=>aX.cf _ bR rfl<|q.aF ah
def Ps(cu:Nat)(d f aq aR:Int)(n: (aG e [ad d] 3).pred a)(o: (aG k [ad f] 3).pred a)(p: (aG cu [ad aq,ad aR] 77).pred a)(j:Nat->Prop)(g:Option Addr)(h i:Nat)(b:List aL)(l:Rd bW a j g h i b)(x:b.length<=1000000):
 Calls prog 434 ([]++[Value.slice g h i]++[ptr e,ptr k,ptr cu]).toArray a (kM (cX (kL · d f aq aR) b) a):=by
 have y:=l.len
 refine ba func434 ntmps434 ?_;refine aY ?_;refine bb bY rfl rfl (λm c=>c.cc n (by (simp;done)) rfl) ?_;refine bb bY rfl rfl (λm c=>c.cc o (by (simp;done)) rfl) ?_;refine cE ib rfl rfl rfl (λm c q r s=>c.kK (sz:=2) p (by (simp;done)) rfl q r s) ?_;refine hf (ι:=Value) (c':=λt=>ep t<|cX (kL · d f aq aR) b) (λu v=>Pi u j g h i b (l.ext v.ext au) aa d f aq aR) λz _=>?_;refine aI ?_;exact λA w=>gr.of _ bh w
def Pt(j:bc a (b9 h))(k:dx h.r)(i:dF h.abs)(e c d aq aR:Int):
 ay 370 [ptr h.g,ad e,ad c,ad d,.agg [ad aq,ad aR].toArray] a (jj h (zn h.abs e c d aq aR) a):=by
 refine bX func370 ntmps370 j ?_;refine ap ?_;intro s t u;refine av ?_;intro v w x;refine av ?_;intro y z A;refine aH ?_;refine bK (ι:=bQ) ah (λl b=>u1 l h (b.cb ah) k i e (cX (kL · c d aq aR)) _ [ptr _,ptr _,ptr _] cL λm B n f o p=>Ps m _ _ _ c d aq aR (f.ew (b.has cW)<|b.apart ah cW) (f.ew (b.has cz)<|b.apart ah cz) (f.ew (b.has bw)<|b.apart ah bw) n _ _ _ _ p (qx i o).1) λC D=>?_;refine aA ?_;exact λE q=>aX.cf _ bR rfl<|q.aF ah
def Pu(cu:Nat)(d f aq aR:Int)(n: (aG e [ad d] 3).pred a)(o: (aG k [ad f] 3).pred a)(p: (aG cu [ad aq,ad aR] 77).pred a)(j:Nat->Prop)(g:Option Addr)(h i:Nat)(b:List aL)(l:Rd bW a j g h i b)(x:b.length<=1000000):
 Calls prog 356 ([]++[Value.slice g h i]++[ptr e,ptr k,ptr cu]).toArray a (kM (cX (hE · d f aq aR) b) a):=by
 have y:=l.len
 refine ba func356 ntmps356 ?_;refine aY ?_;refine bb bY rfl rfl (λm c=>c.cc n (by (simp;done)) rfl) ?_;refine bb bY rfl rfl (λm c=>c.cc o (by (simp;done)) rfl) ?_;refine cE ib rfl rfl rfl (λm c q r s=>c.kK (sz:=2) p (by (simp;done)) rfl q r s) ?_;refine hf (ι:=Value) (c':=λt=>ep t<|cX (hE · d f aq aR) b) (λu v=>Pg u j g h i b (l.ext v.ext au) aa d f aq aR) λz _=>?_;refine aI ?_;exact λA w=>gr.of _ bh w
def Pv(d:bc a (b9 h))(e:dx h.r)(c:dF h.abs)(b:Int):
 ay 419 [ptr h.g,ad b] a (jj h (w7 h.abs b) a):=by
 refine bX func419 ntmps419 d ?_;refine ap ?_;refine bK (ι:=bQ) (vs:=[ptr h.g,ad b,.func (.func 471) [].toArray [].toArray]) ah (λf i=>u1 f h (i.cb ah) e c b (cX mW) _ [] cL λj o k p l m=>Pk j k _ _ _ _ m (qx c l).1) λq s=>?_;refine aA ?_;exact λt n=>aX.cf _ bR rfl<|n.aF ah
