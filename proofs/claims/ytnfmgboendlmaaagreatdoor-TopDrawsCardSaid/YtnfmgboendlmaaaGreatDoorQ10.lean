/- part 10 of the proof -/
import Derived.Test.YtnfmgboendlmaaaGreatDoorQ09
import Derived.Laws.Shifts
set_option linter.all false
namespace Go.Proofs.YtnfmgboendlmaaaGreatDoor.Mq
open RowKit Tryz
variable {P:Program}{n d:Nat}{ops:Array Oper}{Q:cN}{rest:List Oper}{l:Fr}{ty:TypeId}{pos:String}{bf:Array Edge}{b:World}{S:List Nat}{cs:List Chunk}
variable {V:Array Edge}{N:Array Oper}{x:Chunk}{T:Fr}{B:Int}{v:IntKind}{g:List Chunk}{p:List Nat}{R:List Oper}{L:List Value}{q:List bq}{D j:Nat}{t:Nat->Prop}{C u:Operand}{s:Option Addr}{M:Program}{U:String}{F:Type}{o:TypeId}{E m:World}{I:aL}{G:bq}{O:cN}(c:List bq)(y:Value)(a:World)(i:bG)(k:Int)(e:Nat)(h:Nat->Prop)(K:List aL)(z:Nat)(A:bG)(f:Option Addr)(J:Int × Int)
def OL(a:b1 F)(b:F)(c:Nat):gg (a.enc b) c=a.all (List.replicate c b):=by
 induction c with
 | zero=>simp[gg,b1.all]
 | succ c d=>
  have: ∀(l:List F),a.all (b::l)=a.enc b++a.all l:=λl=>by simp[b1.all]
  rw[oq,this,gg,d]
def GX: ∀{rows:List bq} {a:bq},a∈rows->a.1.length<=e1 rows
 | r::rows,a,h=>by
  have b:e1 (r::rows)=r.1.length+e1 rows:=by simp[e1]
  rcases eJ.1 h with rfl | h
  omega
  have:=GX h
  omega
def qr(l:List aL):Nat:=(l.filter λa=>decide<|a.half≠3).length
def gC :Nat:=(cellsOf<|c.take e).length
def OM(a:q[j]? = some G):gC q (j+1)=gC q j+qr G.1:=by
 rw[gC,jH a,GT,b3];rfl
def rN(rows:List bq)(a:Nat):gC rows a<=e1 rows:=ge (y_ _)<|B6 rows a
def zb{rows:List bq}{j k:Nat}(a:j<=k):gC rows j<=gC rows k:=by
 have:rows.take k=rows.take j++(rows.take k).drop j:=by
  conv=>lhs;rw[<-iJ j (rows.take k),List.take_take,jZ a]
 rw[gC,gC,this];simp[cellsOf]
def ON(l:List aL):qr l<=l.length:=List.length_filter_le _ _
def OO{l:List aL}(a:l[j]? = some I):qr (l.take<|j+1)=if I.half≠3 then qr (l.take j)+1 else qr (l.take j):=by
 unfold qr;rw[jH a,B5];by_cases b:I.half=3 <;> simp[b]
def tc(n d:Nat)(l:List aL)(q:Bool)(m:Rd bW a h f n d l)(y:n<=1000000):
 ay 454 [.agg [.slice f n d,.bool q].toArray] a (λr e=>r= .returned (ad (qr l:Int))/\Ext [] a e):=by
 have z:=m.len
 refine ba func454 ntmps454 ?_;refine ap ?_;intro A B C;refine gQ ?_;refine cd (ι:=Nat) (λc=>[(3,ad (qr (l.take c):Int)),(7,.slice f n d),(8,ad (n:Int)),(9,ad (c:Int))]) (λ_=>ag a [] []) (λc=>c<=n) (λc=>n - c) ?_ ?_
 ·exact λa g=>⟨0,b4 _,(da rfl rfl rfl rfl),g.rem bH.head⟩
 ·rintro b o
  have s:=ON<|l.take b
  rw[dR] at s
  refine (aE) (λt=>?_) λt=>cn ?_
  ·obtain⟨x,p⟩ : ∃x,l[b]? = some x:=⟨l[b]'aa,bD _⟩
   obtain⟨D,E,_,u⟩:=m.at_ p;have i:=OO p
   refine aH ?_;refine bE dj rfl rfl rfl bR bo aa<|cE gh rfl rfl (rfl) (λe j b v o=>j.ch (u b v o) au)<|av ?_;intro F G H;refine be ?_;focus (refine (cj) (λk=>?_) λk=>?_;refine bP ?_;(rw[aB k] at i);rotate_left;refine aU ?_;(rw[ai k] at i);all_goals (exact bv (b+1) aa aa (Sub.cons (by rw[i];rfl) b5) λe j=>j.rem bH.head))
  ·intro I g
   have w:b=n:=by omega
   subst w;exact⟨by rw[eT aa],g.ext⟩
def j7 :List Int:=(List.range c.length).map λa=>(gC c (a+1):Int)
def qs : (j7 c).length=c.length:=by simp[j7]
def uN{rows:List bq}{k:Nat}(a:k<rows.length): (j7 rows)[k]? = some (gC rows (k+1):Int):=by simp[j7,a]
def GY :gg [z0] e=ct.all (List.replicate e (0 :Int)):=OL ct (0 :Int) e
def GZ(n i:Nat)(rows:List bq)(l:dT a h f n i rows)(D:n<=1000000)(E:e1 rows<=1000000):
 ay 385 [.slice f n i] a (jC ct a<|j7 rows):=by
 have t:=l.len
 refine ba func385 ntmps385 ?_;refine a6 ?_;refine sT n eE rfl rfl rfl rfl (by simp only[maxLen];omega) aa λm F G=>?_;refine a7 ?_;rw[GY];refine cn ?_;refine cd (ι:=Nat) (λc=>[(3,.slice (some ⟨m,0,none⟩) n n),(4,ad (gC rows c:Int)),(10,.slice f n i),(11,ad (n:Int)),(12,ad (c:Int))]) (λc=>ag a [] [own 3 1 (.slice (some ⟨m,0,none⟩) n n) n (ct.all<|(j7 rows).take c++List.replicate (n - c) 0)]) (λc=>c<=n) (λc=>n - c) ?_ ?_;exact λa g=>⟨0,b4 _,(en rfl rfl rfl rfl rfl),by simpa using g⟩
 rintro b o;refine (aE) (λu=>?_) λu=>cn ?_;obtain⟨row,j⟩ : ∃row,rows[b]? = some row:=⟨rows[b]'aa,bD _⟩;obtain⟨H,v,w,d,I,_,x,p⟩:=l.at_ j;have J:=OM j
 have K:=rN rows<|b+1
 have L:=p.len
 have M:row.1.length<=e1 rows:=GX<|cR j
 have y:=uN (rows:=rows) (k:=b) aa
 have q: ((j7 rows).take b).length=b:=by rw[dR,qs];omega
 have z: ((j7 rows).take b++List.replicate (n - b) (0 :Int))[b]? = some 0:=by
  rw[i_ aa,q,ov,sA,aB aa]
 have r:=ct.rx (j:=0) (a':=(gC rows (b+1):Int)) (v:=ad (gC rows (b+1):Int)) z aW rfl
 rw[rm _ _ aa,q,ov,show n - b=(n - (b+1))+1 by omega,oq,nC,show b*ct.ax+0=b by simp[ct]] at r
 refine aU ?_;refine bE dy rfl rfl rfl bR bo aa<|cE gG rfl rfl (rfl) (λk e b A o=>e.ch (x b A o) au)<|av ?_;intro N O P;refine aY ?_;refine bd (hargs:=rfl) (λk e=>tc k _ v w d row.1 row.2 (p.ext e.ext au) aa)<|a7 ?_;rw[show (gC rows b:Int)+(qr row.1 :Int)=(gC rows (b+1):Int) by omega];refine a7 ?_;refine bE (q:=b) eE rfl rfl rfl bo aa aa ?_;refine mE (o:=b) bY rfl rfl fs (by simp[Addr.add_lit]) rfl (by rw[ct.eD];show _<_*1;simp[qs];omega) ?_;refine aU ?_;refine bv (b+1) aa aa (en rfl rfl rfl rfl rfl) λk e=>?_;have:=e.rem bH.head
 rw[show n - b=(n - (b+1))+1 by omega,oq,r] at this
 rw[jH y,ec];simpa using this
 intro Q g;have B:b=n:=by omega
 subst B;have s:=g.has Has.head
 rw[ov,List.replicate_zero,eZ,eT<|by rw[qs];omega] at s
 exact jC.ho g.ext s (by rw[qs];exact t) (λR C=>by simp only[Value.ownBlock,ek] at C;omega)
def wW(n e:Nat)(c:List bq)(g:Rd ct a h f n e (j7 c))(b:Nat)(r:b<=n)(s:n<=1000000):
 ay 456 [.slice f n e,ad (b:Int)] a (λj i=>j= .returned (ad (gC c b:Int))/\Ext [] a i):=by
 have k:=g.len
 rw[qs] at k
 refine ba func456 ntmps456 ?_;refine (aE) (λl=>aY ?_) λl=>?_;intro m d;have:b=0:=by omega
 subst this;exact⟨rfl,d.ext⟩;obtain⟨b,rfl⟩ : ∃o,b=o+1:=⟨b - 1,aa⟩;obtain⟨t,u,_,p⟩:=g.at_<|uN (rows:=c) (k:=b) aa;refine aU ?_;refine bE (q:=b) eE rfl rfl rfl bR aa aa<|bb bY rfl rfl (λi q=>q.ch (p 0 _ rfl) au)<|aI ?_;exact λm d=>⟨rfl,d.ext⟩
def lc :Int:=
 if i.row<0 then 0 else if (c.length:Int)<=i.row then (gC c c.length:Int)
 else (gC c i.row.toNat:Int)+min (max 0 i.dL) ((gC c (i.row.toNat+1):Int) - (gC c i.row.toNat:Int))
def G0(n j:Nat)(b:List bq)(g:Rd ct a h f n j (j7 b))(c r:Int)(t:n<=1000000)(C:e1 b<=1000000):
 ay 387 [.slice f n j,.agg [ad c,ad r].toArray] a (λu i=>u= .returned (ad<|lc b ⟨c,r⟩)/\Ext [] a i):=by
 have l:=g.len
 rw[qs] at l
 refine ba func387 ntmps387 ?_;refine ap ?_;intro D E F;refine bP ?_;refine bl 10 rfl (λm=>?_) λm=>?_;have e:=bg m
 refine ft ?_;exact λo d=>⟨by rw[lc,aB<|show c<0 from e],d.ext⟩
 have e:=bm m
 refine (aE) (λv=>a6 ?_) λv=>?_;intro o d;have w:n=0:=by omega
 refine⟨?_,d.ext⟩;rw[lc,ai<|show ¬c<0 from e,aB<|show (b.length:Int)<=c by omega,l,w];rfl
 refine (aE) (λx=>?_) λx=>?_;obtain⟨y,z,_,p⟩:=g.at_<|uN (rows:=b) (k:=n - 1) aa;refine aH ?_;refine bE (q:=n - 1) eE rfl rfl rfl bR aa aa<|bb bY rfl rfl (λi q=>q.ch (p 0 _ rfl) au)<|aU ?_;intro o d;refine⟨?_,d.ext⟩;rw[lc,ai<|show ¬c<0 from e,aB<|show (b.length:Int)<=c by omega,l,show n - 1+1=n by omega];obtain⟨k,rfl⟩ : ∃k:Nat,c=k:=⟨c.toNat,aa⟩;obtain⟨y,z,_,p⟩:=g.at_<|uN (rows:=b) (k:=k) aa;have G:=rN b k
 have H:=rN b<|k+1
 have I:=zb (rows:=b) (j:=k) (k:=k+1) aa
 refine aY ?_;refine bd (λi q=>wW i h f n j b (g.ext q.ext au) k aa t)<|a7 ?_;refine bN [0,1,2,3,4,5,6,7,8,9,10,11,12,13] 0 [[]] ?_;refine aU ?_;refine aO rfl (λA s=>(bE (q:=k) eE rfl rfl rfl bR aa aa aJ)) ?_;refine aO rfl (λA s=>(bb bY rfl rfl (λJ B=>by subst B;exact s.ch (p 0 _ rfl) au) aJ)) ?_;refine be ?_;intro o d;refine⟨?_,d.ext⟩;rw[lc,ai<|show ¬(k:Int)<0 from e,ai<|show ¬(b.length:Int)<=(k:Int) by omega];rfl
def dT.cut{n:Nat}{c:List bq}(d:dT m t s n j c){p q:Nat}(e:p<=q)(f:q<=n):
 dT m t (if j=p then s else s.map (·.add (p*2))) (q - p) (j - p) ((c.take q).drop p):=by
 obtain⟨g,h,i,k⟩:=d.jc;refine⟨(g.take q).drop p,h.cut e f,?_,λu l o a b=>?_⟩;rw[List.map_drop,List.map_take,i,List.map_drop,List.map_take];rw[ja,iu] at a b
 split at a
 rename_i r;rw[aB r] at b
 exact k _ l o a b;cases a
def OP(b:List bq):e1 (c++b)=e1 c+e1 b:=by simp[e1]
def OQ(rows:List bq)(a:Nat):e1 (rows.drop a)<=e1 rows:=by
 have b:=iJ a rows
 have:e1 rows=e1 (rows.take a)+e1 (rows.drop a):=by rw[<-OP,b]
 omega
section
variable {H:World->Prop}
def G1{e:TypeId}{b:IntKind}{a r:Int}(f:Nat.blt d n=true)(g:bi l u=some (.int v B))(h:bi l C=some (.int b a))(i:0<=a)(j:B/2 ^ min a.toNat v.bits=r)
 (k:aM P n ops Q rest ((d,.int v r)::l) H):aM P n ops Q (⟨some d,.binOp .shr o u C e,ty,pos,bf,none⟩::rest) l H:=
 dB _ f (λm p c=>by simp[execOp,c u _ g,c C _ h,eqGuard,binOp,shift_shr_any v b B a i,j]) k
end
def OR(n e:Nat)(k:FuncId)(o:List Value)(d:Nat->Bool)(D:n<=1000000)(v:dX prog k)
 (w: ∀g,Ext [] a g-> ∀i:Nat,i<n->Calls prog k (([]:List Value)++[Value.int .i64 (i:Int)]++o).toArray g λp x=>p= .returned (.bool<|d i)/\Ext [] g x)
 (t: ∀i b,i<=b->b<n->d i=true->d b=true) (E:e<=n) (l: ∀b,b<e->d b=false) (m:e<n->d e=true):
 ay 390 [ad (n:Int),.func (.func k) [].toArray o.toArray] a (λp g=>p= .returned (ad (e:Int))/\Ext [] a g):=by
 refine ba func390 ntmps390 ?_;refine cZ ?_;refine cd (ι:=Nat × Nat) (λi=>[(1,.func (.func k) [].toArray o.toArray),(5,ad (i.1 :Int)),(6,ad (i.2 :Int))]) (λ_=>ag a [] []) (λi=>i.1<=i.2/\i.2<=n/\(∀c,c<i.1->d c=false)/\(∀c,i.2<=c->c<n->d c=true)) (λi=>i.2 - i.1) ?_ ?_;exact λa q=>⟨(0,n),⟨b4 _,cC _,by simp,λc l m=>by omega⟩,(ed rfl rfl rfl),q⟩
 rintro⟨i,b⟩ ⟨y,u,r,s⟩;dsimp only at y u r s ⊢
 refine (aE) (λz=>aY ?_) λz=>cn ?_;refine dW rfl rfl underlying3 underlying276 (r:=(i:Int)+(b:Int)) (by simp[IntKind.wrap,IntKind.bits,IntKind.signed];omega) ?_;refine G1 rfl rfl rfl aW (r:=(((i+b)/2 :Nat):Int)) (by rw[show min (1 :Int).toNat IntKind.u64.bits=1 from rfl];omega) ?_;refine aI ?_;generalize F: (i+b)/2=j
 refine ap ?_;refine ix rfl rfl v rfl (λg A=>w g A.ext j aa)<|ap ?_;refine cD rfl (λf=>?_) λf=>?_;have f:d j=false:=by simpa using f
 refine aH ?_;refine bv (j+1,b) ⟨aa,u,λc G=>?_,s⟩ (by simp;omega) (ed rfl rfl rfl) λ_ h=>h;cases B:d c with
 | false=>rfl
 | true=>rw[t c j aa aa B] at f;cases f
 have f:d j=true:=by simpa using f
 refine aI ?_;exact bv (i,j) ⟨aa,aa,r,λc l m=>t j c l m f⟩ (by simp;omega) b5 λ_ h=>h;intro H q;have C:i=b:=by omega
 subst C;have:e=i:=by
  rcases Nat.lt_trichotomy e i with h | h | h
  have:=r e h
  rw[m aa] at this
  cases this
  exact h;have:=l i h
  rw[s i (cC _) aa] at this
  cases this
 exact⟨by rw[this],q.ext⟩
def OS(n i:Nat)(e:List bq)(j:Rd ct a h f n i (j7 e))(k l:Nat)(m:Int)(p:a.cell? ⟨k,0,none⟩=some (.slice f n i))(q:a.cell? ⟨l,0,none⟩=some (ad m))(c:Nat)(w:c<n):
 Calls prog 455 (([]:List Value)++[Value.int .i64 (c:Int)]++[Value.pointer (some ⟨k,0,none⟩),Value.pointer<|some ⟨l,0,none⟩]).toArray a (λr s=>r= .returned (.bool<|decide<|m<(gC e (c+1):Int))/\Ext [] a s):=by
 have t:=j.len
 rw[qs] at t
 obtain⟨x,y,_,u⟩:=j.at_<|uN (rows:=e) (k:=c) aa;refine ba func455 ntmps455 ?_;refine aH ?_;refine bN [0,1,2,3,4,5,6] 0 [[]] ?_;refine aO rfl (λg b=>(bb jD rfl rfl (λo d=>by subst d;exact b.ch p au) aJ)) ?_;refine av ?_;refine aO rfl (λg b=>(bE (q:=c) eE rfl rfl rfl bR aa aa aJ)) ?_;refine aO rfl (λg b=>(bb bY rfl rfl (λo d=>by subst d;exact b.ch (u 0 _ rfl) au) aJ)) ?_;refine aO rfl (λg b=>(bb bY rfl rfl (λo d=>by subst d;exact b.ch q au) aJ)) ?_;refine aU ?_;exact λz v=>⟨rfl,v.ext⟩
def G2 :Prop:=e<=c.length/\(∀a,a<e->(gC c (a+1):Int)<=k)/\(e<c.length->k<(gC c (e+1):Int))
def G3(b:Int): ∃k,G2 c b k:=by
 have: ∀m,m<=c.length-> ∃k,k<=m/\(∀a,a<k->(gC c (a+1):Int)<=b)/\(k<m->b<(gC c (k+1):Int)):=by
  intro m;induction m with
  | zero=>exact λ_=>⟨0,cC _,by simp,by simp⟩
  | succ m f=>
   intro j;obtain⟨k,l,d,g⟩:=f aa;by_cases e:k<m
   exact⟨k,aa,d,λ_=>g e⟩;have e:k=m:=by omega
   subst e;by_cases h:b<(gC c (k+1):Int)
   exact⟨k,aa,d,λ_=>h⟩;refine⟨k+1,cC _,λa n=>?_,λo=>by omega⟩;by_cases i:a=k
   subst i;omega
   exact d a aa
 exact this c.length<|cC _
noncomputable def qt (rows:List bq) (off:Int):Nat:=Classical.choose<|G3 rows off
def G4 :G2 c k (qt c k):=Classical.choose_spec<|G3 c k
noncomputable def lC (rows:List bq) (off:Int):bG:=
 if rows.length=0 then ⟨0,0⟩ else if qt rows (max 0 off)=rows.length then ⟨((rows.length - 1 :Nat):Int),min (max 0 off) (gC rows rows.length:Int) - (gC rows (rows.length - 1):Int)⟩
 else ⟨(qt rows (max 0 off):Int),max 0 off - (gC rows (qt rows<|max 0 off):Int)⟩
def uO(n l:Nat)(c:List bq)(m:Rd ct a h f n l (j7 c))(g:Int)(O: -9223372036854775808<=g/\g<=9223372036854775807)(s:n<=1000000)(P:e1 c<=1000000):
 ay 386 [.slice f n l,ad g] a (λD i=>D= .returned (.agg (lC c g).enc.toArray)/\Ext [] a i):=by
 have w:=m.len
 rw[qs] at w
 refine ba func386 ntmps386 ?_;refine ap ?_;intro x Q R;refine av ?_;intro y S T;refine av ?_;intro U V W;refine (aE) (λE=>a6 ?_) λE=>cZ ?_;exact λz o=>⟨by rw[lC,aB aa];rfl,o.ext⟩
 have A:=G4 c<|max 0 g
 generalize B:qt c (max 0 g)=b at A
 obtain⟨X,F,G⟩:=A;have H:b<=n:=by omega
 refine bd (λi p=>OR i n b 455 [.pointer (some ⟨x,0,none⟩),.pointer<|some ⟨y,0,none⟩] (λq=>decide<|max 0 g<(gC c (q+1):Int)) s cL (λI J q t=>?_) (λq u Y C t=>?_) H (λu C=>?_) λZ=>?_) ?_;have v:=p.keep J
 exact OS I h f n l c (m.ext v.ext au) x y (max 0 g) (v.e8 (o:=0) (Has.tail<|Has.tail Has.head) rfl) (v.e8 (o:=0) (Has.tail Has.head) rfl) q t;have:=zb (rows:=c) (j:=q+1) (k:=u+1) aa
 simp only[eQ] at t ⊢
 omega
 have:=F u C
 simp only[fZ];omega
 have:=G aa
 simpa using this
 refine (aE) (λK=>?_) λK=>?_;have L:b=n:=by omega
 subst L;obtain⟨Za,Zb,_,M⟩:=m.at_<|uN (rows:=c) (k:=b - 1) aa;have N:=rN c<|b - 1
 have Zc:=rN c b
 refine aU ?_;refine bN [0,1,2,3,4,5] 1 [[(6,true,[])]] ?_;refine aO rfl (λj d=>(bb bY rfl rfl (λk e=>by subst e;exact (d.e8 (o:=0) (Has.tail Has.head) rfl)) aJ)) ?_;refine aO rfl (λj d=>(bb jD rfl rfl (λk e=>by subst e;exact (d.e8 (o:=0) (Has.tail<|Has.tail Has.head) rfl)) aJ)) ?_;refine av ?_;refine aO rfl (λj d=>(bE (q:=b - 1) eE rfl rfl rfl bR aa aa aJ)) ?_;refine aO rfl (λj d=>(bb bY rfl rfl (λk e=>by subst e;exact (d.ch (M 0 _ rfl) au)) aJ)) ?_;refine a6 ?_;rw[show (b:Int) - 1=((b - 1 :Nat):Int) by omega,show b - 1+1=b by omega];refine bN [0,1,2,3] 4 [[(4,false,[]),(5,false,[]),(6,false,[]),(7,true,[])]] ?_;refine av ?_;refine aO rfl (λj d=>(bb bY rfl rfl (λk e=>by subst e;exact (d.e8 (o:=0) (Has.tail Has.head) rfl)) aJ)) ?_;refine aO rfl (λj d=>(bb jD rfl rfl (λk e=>by subst e;exact (d.e8 (o:=0) (Has.tail<|Has.tail Has.head) rfl)) aJ)) ?_;refine ap ?_;refine bd (λi p=>wW i h f b l c (m.ext p.ext au) (b - 1) aa s)<|aY ?_;refine cv (λ_=>True) (λ_ r=> .inr ⟨.inr ⟨.inr r,dC⟩,dC⟩) (λ_ r=>bh)<|a6 ?_;intro z o;refine⟨?_,o.ext⟩;rw[lC,ai aa,B,w,aB rfl];rfl
 have N:=rN c b
 refine ap ?_;refine bN [0,1,2,3] 4 [[(4,false,[]),(5,false,[]),(6,false,[]),(7,true,[])]] ?_;refine av ?_;refine aO rfl (λj d=>(bb bY rfl rfl (λk e=>by subst e;exact (d.e8 (o:=0) (Has.tail Has.head) rfl)) aJ)) ?_;refine aO rfl (λj d=>(bb jD rfl rfl (λk e=>by subst e;exact (d.e8 (o:=0) (Has.tail<|Has.tail Has.head) rfl)) aJ)) ?_;refine ap ?_;refine bd (λi p=>wW i h f n l c (m.ext p.ext au) b aa s)<|aY ?_;refine cv (λ_=>True) (λ_ r=> .inr ⟨.inr ⟨.inr r,dC⟩,dC⟩) (λ_ r=>bh)<|a6 ?_;intro z o;refine⟨?_,o.ext⟩;rw[lC,ai aa,B,ai aa];rfl
def OT(rows:List bq): (tb rows).length<=e1 rows:=by
 rw[tb,B3,dR,hq];have:=y_ rows
 omega
def dT.iz{rows:List bq}(b:dT m t s j D rows):dT m (λa=>t a/\a<m.heap.size) s j D rows:=by
 obtain⟨c,d,e,f⟩:=b.jc;exact⟨c,d.iz aW,e,λa g h i k=>(f a g h i k).iz aW⟩
def OU :0<=lc c i/\lc c i<=(e1 c:Int):=by
 unfold lc;split
 omega
 split
 have:=rN c c.length;omega
 have a:=rN c<|i.row.toNat+1
 have b:=zb (rows:=c) (j:=i.row.toNat) (k:=i.row.toNat+1) aa
 omega
def nJ :Bool:=decide (0<=k) && decide (k<=1114111) && !(decide (55296<=k) && decide (k<=57343))
def eW :UInt8:=UInt8.ofNat<|128 ||| ((e/2 ^ (6*z))%256 &&& 63)
def dk :List UInt8:=
 if nJ k=true then
  if k<128 then [UInt8.ofNat k.toNat] else
  if k<2048 then [UInt8.ofNat (192 ||| (k.toNat/64)%256),eW k.toNat 0] else
  if k<65536 then [UInt8.ofNat (224 ||| (k.toNat/4096)%256),eW k.toNat 1,eW k.toNat 0] else
  [UInt8.ofNat (240 ||| (k.toNat/262144)%256),eW k.toNat 2,eW k.toNat 1,eW k.toNat 0]
 else []
def uP : (dk k).length<=4:=by
 unfold dk;repeat' split
 all_goals simp
def qu(a:aL):List UInt8:=if a.half=2 then [] else if a.r=0 then [32] else dk a.r++a.more
def mU :List aL:=((c[e]?).map (·.1)).getD []
def hh :Int:=if (e:Int)=i.row then max 0 i.dL else 0
def iC :Int:=if (e:Int)=i.row then min (z:Int) i.dL else (z:Int)
def jh :Bool:=decide<|i.row<A.row\/i.row=A.row/\i.dL<A.dL
def mV(a:aL):Bool:=decide (a.r≠0) && decide (a.half≠3)
def td(a:List aL)(b:Nat):Nat->Option Nat
 | 0=>none
 | k+1=>if k<b then none else if ((a[k]?).map mV).getD false=true then some (k+1) else td a b k
def nK(a:List bq)(b c:bG)(d:Nat):Nat->bG
 | 0=>⟨0,0⟩
 | k+1=>if k<d then ⟨0,0⟩ else match td (mU a k) (hh b k).toNat (iC c k (mU a k).length).toNat with
  | some e=>⟨(k:Int),(e:Int)⟩
  | none=>nK a b c d k
def te(b:bG)(c:Nat)(a:aL):List UInt8:=if a.half≠3/\jh ⟨(e:Int),(c:Int)⟩ b=true then qu a else []
def jI(a:List aL)(b:Nat)(c:bG)(d:Nat):Nat->List UInt8
 | 0=>[]
 | k+1=>jI a b c d k++(if k<d then [] else match a[k]? with
  | some e=>te b c k e
  | none=>[])
def kI(a:List bq)(b c d:bG)(e:Nat):Nat->List UInt8
 | 0=>[]
 | k+1=>kI a b c d e k++(if k<e then [] else jI (mU a k) k d (hh b k).toNat (iC c k (mU a k).length).toNat)
def jJ :List UInt8:=
 if max J.1 i.row<J.2/\max J.1 i.row<=A.row then
  kI c i A (nK c i A (max J.1 i.row).toNat (if A.row<c.length/\A.row+1<J.2 then A.row+1 else J.2).toNat) (max J.1 i.row).toNat (if A.row<c.length/\A.row+1<J.2 then A.row+1 else J.2).toNat++
   (if (if A.row<c.length/\A.row+1<J.2 then A.row+1 else J.2) - 1<A.row then [10] else [])
 else []
def wX :bG:=if i.row<0 then ⟨0,0⟩ else i
def ld :List UInt8:=if jh (wX i) A=true then (l5 c c.length).flatMap (jJ c (wX i) A) else []
def zc(b:List aL)(c:Nat)(d:bG)(a:Nat): ∀k,k<=a->jI b c d a k=[]
 | 0,_=>rfl
 | k+1,e=>by rw[jI,zc b c d a k aa,aB aa];rfl
def Cd(b:List bq)(c d e:bG)(a:Nat): ∀k,k<=a->kI b c d e a k=[]
 | 0,_=>rfl
 | k+1,f=>by rw[kI,Cd b c d e a k aa,aB aa];rfl
def OV(a:Nat): ∀k,k<=a->nK c i A a k=⟨0,0⟩
 | 0,_=>rfl
 | k+1,b=>by rw[nK,aB aa]
def G5 : ∀(b:List (Int × Int))(d:Nat),uM q j d b-> ∀c∈b,∃g a:Nat,c=((g:Int),(a:Int))/\g<a/\a<=j
 | [],_,_,c,e=>by cases e
 | p::b,d,e,c,f=>by
  obtain⟨a,h,i,k,_,_,l⟩:=Cc e;rcases eJ.1 f with rfl | f
  exact⟨d,a,h,i,k⟩;exact G5 b a l c f
def OW :ay 202 [.int .i32 k] a (λh i=>h= .returned (.bool<|nJ k)/\Ext [] a i):=by
 refine ba func202 ntmps202 ?_;refine be ?_;refine bl 5 rfl (λc=>?_) λc=>?_;have j:=bg c
 refine aH ?_;refine bl 9 rfl (λd=>?_) λd=>?_;have l:=bg d
 refine aH ?_;refine bl 12 rfl (λe=>?_) λe=>?_;have m:=bg e
 refine be ?_;intro f b;refine⟨?_,b.ext⟩;unfold nJ;rw[bI (show 0<=k by omega),bI<|show k<=1114111 by omega,bJ<|show ¬55296<=k by omega];rfl
 have m:=bm e
 refine b6 ?_;intro f b;refine⟨?_,b.ext⟩;unfold nJ;rw[bI (show 0<=k by omega),bI<|show k<=1114111 by omega,bI<|show 55296<=k by omega];by_cases g:k<=57343
 rw[bI g,bJ<|show ¬57343<k by omega];rfl
 rw[bJ g,bI<|show 57343<k by omega];rfl
 have l:=bm d
 refine b6 ?_;intro f b;refine⟨?_,b.ext⟩;unfold nJ;rw[bI (show 0<=k by omega),bJ<|show ¬k<=1114111 by omega];rfl
 have j:=bm c
 refine fa ?_;intro f b;refine⟨?_,b.ext⟩;unfold nJ;rw[bJ (show ¬0<=k by omega)];rfl
def OX : (128 ||| (e/2 ^ (6*z)%256 &&& 63))<256:=by
 refine ou (n:=8) aW ?_;have:= @Nat.and_le_right (e/2 ^ (6*z)%256) 63
 omega
def uQ(x b:Nat)(k:x<=1114111)(l:b<=2)(d:a.cell? ⟨e,0,none⟩=some (.int .i32 (x:Int))):
 ay 201 [ad (b:Int),.pointer<|some ⟨e,0,none⟩] a (λf c=>f= .returned (.int .u8 ((eW x b).toNat:Int))/\Ext [] a c):=by
 have g:=OX x b
 have m:= @Nat.and_le_right (x/2 ^ (6*b)%256) 63
 have h:x/2 ^ (6*b)%256<256:=jA _ aW
 have n:x/2 ^ (6*b)<=x:=Nat.div_le_self _ _
 refine ba func201 ntmps201 ?_;refine aU ?_;refine bb h_ rfl rfl (λc i=>i.ch d au)<|av ?_;refine mD (r:=((6*b:Nat):Int)) rfl rfl rfl (by rw[wrap64 aa aa];omega) ?_;refine rJ (r:=((x/2 ^ (6*b):Nat):Int)) rfl rfl rfl aa (by rcases (show b=0\/b=1\/b=2 by omega) with rfl | rfl | rfl <;> rfl) ?_;refine dW (r:=((x/2 ^ (6*b)%256 :Nat):Int)) rfl rfl underlying21 underlying5 (by rw[IntKind.wrap_u8];omega) ?_;refine rI (r:=((x/2 ^ (6*b)%256 &&& 63 :Nat):Int)) rfl rfl rfl (and_eq (m:=x/2 ^ (6*b)%256) (n:=63) rfl rfl h aW<|mN aa aa) ?_;refine mO (r:=((128 ||| (x/2 ^ (6*b)%256 &&& 63):Nat):Int)) rfl rfl rfl (or_eq (m:=128) (n:=x/2 ^ (6*b)%256 &&& 63) rfl rfl aW (by simp only[IntKind.bits];omega)<|mN aa aa) ?_;refine aI ?_;intro o j;refine⟨?_,j.ext⟩;rw[eW,ky,qb g]
theorem uR:dX prog 201:=cL
def OY : (e:Int)/2 ^ min (12 :Int).toNat IntKind.i32.bits=((e/4096 :Nat):Int):=by
 have a: (2 :Int) ^ min (12 :Int).toNat IntKind.i32.bits=4096:=by decide
 rw[a];omega
def OZ : (e:Int)/2 ^ min (18 :Int).toNat IntKind.i32.bits=((e/262144 :Nat):Int):=by
 have a: (2 :Int) ^ min (18 :Int).toNat IntKind.i32.bits=262144:=by decide
 rw[a];omega
def Ce{a m:Nat}(b:a<256)(c:m<256):IntKind.u8.wrap ((BitVec.ofInt IntKind.u8.bits (a:Int) ||| BitVec.ofInt IntKind.u8.bits (m:Int)).toNat:Int)=((UInt8.ofNat<|a ||| m).toNat:Int):=by
 have d:=ou (n:=8) b c
 refine or_eq (m:=a) (n:=m) rfl rfl b c ?_;rw[mN aa aa,ky,qb d]
def wY :ay 119 [.int .i32 k] a (λA e=>A= .returned (bU<|dk k)/\Ext [] a e):=by
 refine ba func119 ntmps119 ?_;refine ap ?_;intro f B C;refine cZ ?_;refine bF (OW · k)<|a7 ?_;refine cD rfl (λp=>?_) λp=>?_;have j:nJ k=false:=by simpa using p
 refine a6 ?_;exact λn g=>⟨by rw[dk,ai<|by rw[j];decide] <;> rfl,g.ext⟩
 have j:nJ k=true:=by simpa using p
 have y:=j
 unfold nJ at y
 rw[dK,dK,eQ,eQ] at y
 obtain⟨x,rfl⟩ : ∃x:Nat,k=(x:Int):=⟨k.toNat,aa⟩;have m:x<=1114111:=by omega
 have z: ((x:Int)).toNat=x:=rfl
 have D: ∀l,dk (x:Int)=l->bs (dk (x:Int))=bs l:=λl b=>by rw[b]
 refine aU ?_;refine (cj) (λq=>ap ?_) λq=>?_;refine dW (r:=((UInt8.ofNat x).toNat:Int)) rfl rfl underlying21 underlying5 (by rw[IntKind.wrap_u8,ky];omega) ?_;refine av ?_;intro E F G;refine kF (s:=[UInt8.ofNat x]) underlying48 underlying5 underlying9 rfl rfl (λe c=>Rd.iR (E:=cI) (L:=[UInt8.ofNat x]) c Has.head rfl aW)<|aU ?_;exact λn g=>⟨by rw[dk,aB j,aB q] <;> rfl,g.ext⟩
 have r: ¬(x:Int)<128:=q
 refine aU ?_;refine (cj) (λs=>?_) λs=>?_;have o: (x:Int)<2048:=s
 refine av ?_;refine fg [0,1,2,3,4] 3 [[(5,false,[]),(6,false,[]),(7,false,[8])]] (rF [aG f [.int .i32 (x:Int)] 21]) mixed ak (λ_ g=>g.drew) (λ_ b=>b.aQ)<|av ?_;refine aO rfl (λh i=>(rJ (r:=((x/64 :Nat):Int)) rfl rfl rfl aW rfl aJ)) ?_;refine aO rfl (λh i=>(dW (r:=((x/64%256 :Nat):Int)) rfl rfl underlying21 underlying5 (by rw[IntKind.wrap_u8];omega) aJ)) ?_;refine aO rfl (λh i=>(mO (r:=((UInt8.ofNat<|192 ||| x/64%256).toNat:Int)) rfl rfl rfl (Ce (a:=192) (m:=x/64%256) aW aa) aJ))<|ap ?_;refine ix (first:=[]) (cap:=[.pointer (some ⟨f,0,none⟩)]) (v:= .int .u8 ((eW x 0).toNat:Int)) rfl rfl uR rfl (λe c=>uQ e f x 0 m aW<|c.e8 bw rfl)<|cv (λ_=>True) (λ_ b=> .inr b.aQ) (λ_ b=>bh) ?_;refine ap ?_;intro H I J;refine cv (λ_=>True) (λ_ b=> .inr ⟨.inr<|(b.rem bH.head).aQ,bh⟩) (λ_ b=>bh)<|aA ?_;refine kF (s:=[UInt8.ofNat (192 ||| x/64%256),eW x 0]) underlying48 underlying5 underlying9 rfl rfl (λe c=>Rd.iR (E:=cI) (L:=[UInt8.ofNat (192 ||| x/64%256),eW x 0]) c Has.head rfl aW)<|cv (λ_=>True) (λ_ b=> .inr ⟨.inr ⟨.inr<|(b.rem bH.head).aQ,bh⟩,bh⟩) (λ_ b=>bh)<|aY ?_;exact λn g=>⟨by rw[dk,aB j,ai r,aB o];rfl,g.ext⟩
 have o: ¬(x:Int)<2048:=s
 refine aU ?_;refine (cj) (λt=>?_) λt=>?_;have u: (x:Int)<65536:=t
 obtain⟨d,v,w⟩ : ∃d:Nat,d=x/4096/\(x:Int)/2 ^ min (12 :Int).toNat IntKind.i32.bits=(d:Int):=⟨_,rfl,OY x⟩;refine av ?_;refine fg [0,1,2,3,4,6] 4 [[(5,false,[]),(7,false,[]),(8,false,[]),(9,false,[10])]] (rF [aG f [.int .i32 (x:Int)] 21]) mixed ak (λ_ g=>g.drew) (λ_ b=>b.aQ)<|av ?_;refine aO rfl (λh i=>(rJ (r:=(d:Int)) rfl rfl rfl aW w aJ)) ?_;refine aO rfl (λh i=>(dW (r:=((d%256 :Nat):Int)) rfl rfl underlying21 underlying5 (by rw[IntKind.wrap_u8];omega) aJ)) ?_;refine aO rfl (λh i=>(mO (r:=((UInt8.ofNat<|224 ||| d%256).toNat:Int)) rfl rfl rfl (Ce (a:=224) (m:=d%256) aW aa) aJ))<|a7 ?_;refine ix (first:=[]) (cap:=[.pointer (some ⟨f,0,none⟩)]) (v:= .int .u8 ((eW x 1).toNat:Int)) rfl rfl uR rfl (λe c=>uQ e f x 1 m aW<|c.e8 bw rfl)<|cv (λ_=>True) (λ_ b=> .inr b.aQ) (λ_ b=>bh) ?_;refine aA ?_;refine ix (first:=[]) (cap:=[.pointer (some ⟨f,0,none⟩)]) (v:= .int .u8 ((eW x 0).toNat:Int)) rfl rfl uR rfl (λe c=>uQ e f x 0 m aW<|c.e8 bw rfl)<|cv (λ_=>True) (λ_ b=> .inr ⟨.inr b.aQ,bh⟩) (λ_ b=>bh) ?_;refine ap ?_;intro K L M;refine cv (λ_=>True) (λ_ b=> .inr ⟨.inr ⟨.inr<|(b.rem bH.head).aQ,bh⟩,bh⟩) (λ_ b=>bh)<|aA ?_;refine kF (s:=[UInt8.ofNat (224 ||| d%256),eW x 1,eW x 0]) underlying48 underlying5 underlying9 rfl rfl (λe c=>Rd.iR (E:=cI) (L:=[UInt8.ofNat (224 ||| d%256),eW x 1,eW x 0]) c Has.head rfl aW)<|cv (λ_=>True) (λ_ b=> .inr ⟨.inr ⟨.inr ⟨.inr<|(b.rem bH.head).aQ,bh⟩,bh⟩,bh⟩) (λ_ b=>bh)<|aY ?_;exact λn g=>⟨by rw[dk,aB j,ai r,ai o,aB u,z,<-v] <;> rfl,g.ext⟩
 have u: ¬(x:Int)<65536:=t
 obtain⟨d,v,w⟩ : ∃d:Nat,d=x/262144/\(x:Int)/2 ^ min (18 :Int).toNat IntKind.i32.bits=(d:Int):=⟨_,rfl,OZ x⟩;refine a7 ?_;refine fg [0,1,2,3,4,6,8] 5 [[(5,false,[]),(7,false,[]),(9,false,[]),(10,false,[]),(11,false,[12])]] (rF [aG f [.int .i32 (x:Int)] 21]) mixed ak (λ_ g=>g.drew) (λ_ b=>b.aQ)<|av ?_;refine aO rfl (λh i=>(rJ (r:=(d:Int)) rfl rfl rfl aW w aJ)) ?_;refine aO rfl (λh i=>(dW (r:=((d%256 :Nat):Int)) rfl rfl underlying21 underlying5 (by rw[IntKind.wrap_u8];omega) aJ)) ?_;refine aO rfl (λh i=>(mO (r:=((UInt8.ofNat<|240 ||| d%256).toNat:Int)) rfl rfl rfl (Ce (a:=240) (m:=d%256) aW aa) aJ))<|aI ?_;refine ix (first:=[]) (cap:=[.pointer (some ⟨f,0,none⟩)]) (v:= .int .u8 ((eW x 2).toNat:Int)) rfl rfl uR rfl (λe c=>uQ e f x 2 m aW<|c.e8 bw rfl)<|cv (λ_=>True) (λ_ b=> .inr b.aQ) (λ_ b=>bh) ?_;refine aA ?_;refine ix (first:=[]) (cap:=[.pointer (some ⟨f,0,none⟩)]) (v:= .int .u8 ((eW x 1).toNat:Int)) rfl rfl uR rfl (λe c=>uQ e f x 1 m aW<|c.e8 bw rfl)<|cv (λ_=>True) (λ_ b=> .inr ⟨.inr b.aQ,bh⟩) (λ_ b=>bh) ?_;refine aA ?_;refine ix (first:=[]) (cap:=[.pointer (some ⟨f,0,none⟩)]) (v:= .int .u8 ((eW x 0).toNat:Int)) rfl rfl uR rfl (λe c=>uQ e f x 0 m aW<|c.e8 bw rfl)<|cv (λ_=>True) (λ_ b=> .inr ⟨.inr ⟨.inr b.aQ,bh⟩,bh⟩) (λ_ b=>bh) ?_;refine ap ?_;intro N O P;refine cv (λ_=>True) (λ_ b=> .inr ⟨.inr ⟨.inr ⟨.inr<|(b.rem bH.head).aQ,bh⟩,bh⟩,bh⟩) (λ_ b=>bh)<|aA ?_;refine kF (s:=[UInt8.ofNat (240 ||| d%256),eW x 2,eW x 1,eW x 0]) underlying48 underlying5 underlying9 rfl rfl (λe c=>Rd.iR (E:=cI) (L:=[UInt8.ofNat (240 ||| d%256),eW x 2,eW x 1,eW x 0]) c Has.head rfl aW)<|cv (λ_=>True) (λ_ b=> .inr ⟨.inr ⟨.inr ⟨.inr ⟨.inr<|(b.rem bH.head).aQ,bh⟩,bh⟩,bh⟩,bh⟩) (λ_ b=>bh)<|aH ?_;exact λn g=>⟨by rw[dk,aB j,ai r,ai o,ai u,z,<-v] <;> rfl,g.ext⟩
def O0(c:aL)(k:c.more.length<=1000000):ay 309 [.agg c.enc.toArray] a (λh i=>h= .returned (bU<|qu c)/\Ext [] a i):=by
 have l:=uP c.r
 refine ba func309 ntmps309 ?_;refine ap ?_;intro j m n;refine (aE) (λd=>a6 ?_) λd=>?_;exact λg b=>⟨by rw[qu,aB d] <;> rfl,b.ext⟩
 refine (aE) (λf=>a6 ?_) λf=>a7 ?_;exact λg b=>⟨by rw[qu,ai d,aB f] <;> rfl,b.ext⟩
 refine fg [0,1,3,4] 1 [[(2,false,[5,6])]] (rF [aG j c.enc 81]) mixed ak (λ_ b=>b.drew) (λ_ e=>e.aQ)<|aH ?_;refine bF (wY · c.r)<|cv (λ_=>True) (λ_ e=> .inr e.aQ) (λ_ e=>bh) ?_;refine aO rfl (λo p=>(eb rfl rfl rfl aa aJ))<|aH ?_;exact λg b=>⟨by rw[qu,ai d,ai f],b.ext⟩
section
variable {cs':List Chunk}{w:World}
def ag.Cf{k:Nat}{c:Chunk}(f:ag b S (x::aZ g::cs) w)(a:g[k]? = some c):ag b S (aZ (g.set k x)::cs) w:=by
 have d:=(cH.1 a).1
 have h:=(cH.1 a).2
 have i:g=g.take k++c::g.drop (k+1):=by
  conv=>lhs;rw[<-iJ k g]
  rw[lY d,h]
 have j:g.set k x=g.take k++x::g.drop (k+1):=by rw[sH,aB d]
 have l:ag b S (aZ g::x::cs) w:=f.perm<|List.Perm.swap _ _ _
 have e:=l.mQ
 rw[i] at e
 have m:ag b S (c::(g.take k++x::g.drop (k+1))++cs) w:=e.perm (by
  simp only[ec,nz];refine List.perm_middle.trans<|List.Perm.cons _ ?_;refine List.Perm.append_left _ ?_;exact (p_).trans<|List.Perm.refl _)
 rw[j];exact (m.rem bH.head).close'
def ag.G6{l':List Chunk}(a:ag b S (aZ g::cs) w)(c:List.Perm g l'):ag b S (aZ l'::cs) w:=(a.mQ.perm<|c.append_right _).close'
def ag.O1{a r:List Chunk}(d:ag b S (aZ g::cs) w)(e:List.Perm g (r++a)):ag b S (aZ a::cs) w:=by
 have c:=d.mQ.perm<|e.append_right cs
 rw[ec] at c
 exact (ag.drop _ r c).close'
end
structure b_ where
 A:Option Addr
 c:Nat
 cont:Bool
 cells:List aL
abbrev b_.val(a:b_):Value:= .slice a.A a.cells.length a.c
abbrev b_.enc(a:b_):List Value:=[.slice a.A a.cells.length a.c,.bool a.cont]
def cx:b1 b_:=⟨b_.enc,2,λ_=>rfl,λ_=>aV.cons rfl<|aV.cons rfl aV.nil⟩
abbrev b_.fI(a:b_):bq:=(a.cells,a.cont)
abbrev b_.wZ(a:b_):rL:=⟨a.A,a.cells.length,a.c,a.cont⟩
abbrev ep :Chunk:=own 81 8 y K.length<|bW.all K
abbrev b_.aQ(a:b_):Chunk:=ep a.val a.cells
abbrev b2(a:List b_):List bq:=a.map b_.fI
abbrev kJ:b_:=⟨none,0,false,[]⟩
structure dz where
 A:Option Addr
 c:Nat
 l:List b_
abbrev dz.val(a:dz):Value:= .slice a.A a.l.length a.c
abbrev dz.aD(a:dz):Chunk:=own 39 2 a.val a.l.length<|cx.all a.l
abbrev dz.cw(a:dz):Chunk:=aZ<|a.l.map b_.aQ
def G7(a:List b_):cx.all a=mS.all (a.map b_.wZ):=by
 induction a with
 | nil=>rfl
 | cons b a c=>
  show cx.enc b++cx.all a=mS.enc b.wZ++mS.all (a.map b_.wZ)
  rw[c];rfl
def w0{w:World}{v:Value}{L:List aL}(c: (ep v L).pred w): ∃a b,v= .slice a L.length b/\Rd bW w (λd=>v.ownBlock=some d) a L.length b L:=
 Rd.ho (E:=bW) (show w.ownsRow 0 81 bW.ax v L.length (bW.all L) from c) rfl
def nL{w:World}{r:dz}(f:r.aD.pred w)(g:r.cw.pred w):dT w (λ_=>True) r.A r.l.length r.c (b2 r.l):=by
 have h:w.ownsRow 0 39 mS.ax r.val r.l.length (mS.all<|r.l.map b_.wZ):=by
  have:w.ownsRow 0 39 2 r.val r.l.length (cx.all r.l):=f
  rw[G7] at this;exact this
 obtain⟨u,v,i,j⟩:=Rd.ho (E:=mS) h au;injection i with k x m
 subst k m;refine⟨_,j.d8 λ_ _=>bh,by simp,λn y z a b=>?_⟩;rw[fw] at a b
 cases d:r.l[n]? with
 | none=>rw[d] at a;cases a
 | some e=>
  rw[d] at a b
  cases a;cases b
  have o:=g e.aQ<|ei.2 ⟨e,cR d,rfl⟩
  obtain⟨B,C,p,q⟩:=w0 o;injection p with s D t
  subst s t;exact q.d8 λ_ _=>bh
structure fb where
 kind:Int
 at_:Int
 n:Int
abbrev fb.enc(a:fb):List Value:=[ad a.kind,ad a.at_,ad a.n]
def lD:b1 fb:=⟨fb.enc,3,λ_=>rfl,λ_=>aV.cons rfl<|aV.cons rfl<|aV.cons rfl aV.nil⟩
structure nM where
 A:Option Addr
 c:Nat
 l:List fb
abbrev nM.val(a:nM):Value:= .slice a.A a.l.length a.c
abbrev nM.aD(a:nM):Chunk:=own 232 3 a.val a.l.length<|lD.all a.l
structure dQ where
 g:Nat
 s:dz
 room:Int
 first:Int
 n:Int
 gone:Int
abbrev Cg(a:dQ):List Value:=[a.s.val,ad a.room,ad a.first,ad a.n,.int .u64 a.gone]
abbrev dQ.aq(a:dQ):Chunk:=aG a.g (Cg a) 220
abbrev cP(a:dQ):List Chunk:=[a.aq,a.s.aD,a.s.cw]
def e5(a:dQ)(b:Int):Int:=if (a.s.l.length:Int)<=b+a.first then b+a.first - a.s.l.length else b+a.first
structure dx (r:dQ):Prop where
 len: (r.s.l.length:Int)<=r.room
 room:0<=r.room/\r.room<=100000
 n:0<=r.n/\r.n<=r.s.l.length
 first:0<=r.first/\(r.first<r.s.l.length\/r.first=0)
 gone:0<=r.gone/\r.gone<18446744073709551616
def dQ.rows(a:dQ):List bq:=(List.range a.n.toNat).map λ(b:Nat)=>(((a.s.l[(e5 a b).toNat]?).map b_.fI).getD ([],false))
structure bQ where
 g:Nat
 r:dQ
 s:dz
 al:Int
 bu:nM
abbrev qv(a:bQ):List Value:=[.pointer (some ⟨a.r.g,0,none⟩),a.s.val,ad a.al,a.bu.val]
abbrev bQ.aq(a:bQ):Chunk:=aG a.g (qv a) 153
abbrev b9(a:bQ):List Chunk:=[a.aq,aZ<|cP a.r,a.s.aD,a.s.cw,a.bu.aD]
abbrev ptr :Value:= .pointer<|some ⟨e,0,none⟩
def ag.cc(b:ag m p g E){o:Nat}{xs:List Value}{a:TypeId}{v:Value}(c: (aG j xs a).pred m)(d:j∉p)(e:xs[o]? = some v):E.cell? ⟨j,o,none⟩=some v:=by
 refine b.ch ?_ d;have f:m.heap[j]? = some (.cells xs.toArray a (0,0)):=c
 rw[cell_of_row m j o xs.toArray a (0,0) f];simpa using e
def ag.kK(c:ag m p g E){o sz:Nat}{xs:List Value}{d:TypeId}(e: (aG j xs d).pred m)(f:j∉p)(h: (xs.drop o).take sz=L)(b:Nat)(u:Value)(a:L[b]? = some u):E.cell? ((⟨j,o,none⟩ :Addr).add b)=some u:=by
 rw[Addr.add_lit];refine c.cc e f ?_;rw[<-h,iu] at a
 split at a
 simpa using a
 cases a
def d9{H:World->Prop}{a b c d:Nat}{e f:Nat}{q:Nat}(g:M.underlying a=some (.array c b))(h: (M.info? b).map (·.size)=some d)(i:Nat.blt D j=true)(k:bi T u=some (.pointer<|some ⟨e,f,none⟩))(l:bi T C=some (.int v B))
 (m:B=(q:Int)) (n:q<c)
 (p:aM M j N O R ((D,.pointer<|some ⟨e,f+q*d,none⟩)::T) H):aM M j N O (⟨some D,.indexAddr a u C,o,U,V,none⟩::R) T H:=
 sQ g h i k l m n (by rw[Addr.add_lit];exact p)
abbrev Pure :Ending->World->Prop:=λb c=>b= .returned y/\Ext [] a c
def zd(b:dQ)(c:b.aq.pred a):ay 120 [ptr b.g] a (Pure (ad b.n) a):=by
 refine ba func120 ntmps120 ?_;refine gR ?_;refine bb bY rfl rfl (λf d=>d.cc c (by (simp;done)) rfl) ?_;refine aI ?_;exact λh e=>⟨rfl,e.ext⟩
def ze(b:dQ)(e:b.aq.pred a)(d:Int)(j:0<=d/\d<=1000000)(k:0<=b.first/\b.first<=1000000)(m: (b.s.l.length:Int)<=1000000):ay 122 [ptr b.g,ad d] a (Pure (ad<|e5 b d) a):=by
 refine ba func122 ntmps122 ?_;refine bP ?_;refine bb bY rfl rfl (λf c=>c.cc e (by (simp;done)) rfl) ?_;refine bP ?_;refine bb sY rfl rfl (λf c=>c.cc e (by (simp;done)) rfl) ?_;refine a7 ?_;focus (refine (cj) (λh=>?_) λh=>?_;refine aI ?_;refine bb sY rfl rfl (λf c=>c.cc e (by (simp;done)) rfl) ?_;refine cn ?_;rotate_left;refine be ?_;all_goals (intro n i;exact⟨by simp only[e5,Ending.returned.injEq,Value.int.injEq,true_and];omega,i.ext⟩))
def oK(b:bQ)(c:b.aq.pred a):ay 58 [ptr b.g] a (Pure (ad (b.s.l.length:Int)) a):=by
 refine ba func58 ntmps58 ?_;refine gR ?_;refine bb sY rfl rfl (λf d=>d.cc c (by (simp;done)) rfl) ?_;refine aH ?_;exact λh e=>⟨rfl,e.ext⟩
def zf(b:bQ)(c:b.aq.pred a):ay 36 [ptr b.g] a (Pure (ad b.al) a):=by
 refine ba func36 ntmps36 ?_;refine gR ?_;refine bb bY rfl rfl (λf d=>d.cc c (by (simp;done)) rfl) ?_;refine aI ?_;exact λh e=>⟨rfl,e.ext⟩
def ag.ew{w:World}(d:ag m p g w)(b:x.pred m)(e: ∀a∈x.cT,a∉p):x.pred w:=
 x.loc m w (λa c=>d.ext.block a (x.low m b a c)<|e a c) b
def oL(b:bQ)(c:b.aq.pred a)(d:b.r.aq.pred a):ay 91 [ptr b.g] a (Pure (ad b.r.n) a):=by
 refine ba func91 ntmps91 ?_;refine gR ?_;refine bb Gh rfl rfl (λj e=>e.cc c (by (simp;done)) rfl) ?_;refine bd (hargs:=rfl) (λf h=>zd f _<|h.ew d au)<|aI ?_;exact λk i=>⟨rfl,i.ext⟩
def uS(b:bQ)(f:b.aq.pred a)(c:Int):ay 354 [ptr b.g,ad c] a (Pure (.bool<|decide<|0<=c/\c<b.s.l.length) a):=by
 refine ba func354 ntmps354 ?_;refine be ?_;refine bl 7 rfl (λd=>?_) λd=>?_;have h:=bg d
 refine aI ?_;refine bd (hargs:=rfl) (λi j=>oK i _<|j.ew f au)<|aY ?_;exact λk e=>⟨by simp;omega,e.ext⟩
 have h:=bm d
 refine be ?_;exact λk e=>⟨by simp;omega,e.ext⟩
