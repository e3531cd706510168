/- part 13 of the proof -/
import Derived.Test.YtnfmgboendlmaaaGreatDoorQ12
set_option linter.all false
namespace Go.Proofs.YtnfmgboendlmaaaGreatDoor.Mq
open RowKit Tryz
variable {P:Program}{n d:Nat}{ops:Array Oper}{Q:cN}{rest:List Oper}{l:Fr}{ty:TypeId}{pos:String}{bf:Array Edge}{b:World}{S:List Nat}{cs:List Chunk}
variable {Z:Array Edge}{T:Array Oper}{K:Chunk}{J:Ending}{W:Fr}{B e:List Chunk}{k:List Nat}{V:List Oper}{m:List Value}{I:List aL}{G H f s:Nat}{z:Operand}{t:Option Addr}{R:Program}{Y:String}{g:Type}{X:TypeId}{L:Value}{M:Value->List Chunk}{i:World}{y:b8}{x:bQ}{w:b_}{U:cN}{j:dQ}(p:b8)(O:List bq)(a:World)(h:dQ)(c:Nat)(o:bQ)(v:Nat->Prop)(D:bq)(N:b_)(u:Option Addr)(q:Int)(A:Nat){r:List g}
def Pw :gg [.int .i32 0,.string ByteArray.empty,z0,z0,z0,z0,z0,z0] c=bW.all (List.replicate c eo):=by
 induction c with
 | zero=>rfl
 | succ c a=>
  rw[oq];show gg _ (c+1)=bW.enc eo++bW.all (List.replicate c eo)
  rw[<-a];rfl
def mX :Nat:=(max 0<|min q 1000).toNat
def Px(n aq aR:Int):ay 331 [ad n,.agg [ad aq,ad aR].toArray] a (kM (List.replicate (mX n)<|hr aq aR) a):=by
 have g:max 0 (min n 1000)=(mX n:Int):=by unfold mX;omega
 obtain⟨m,l⟩ : ∃m,m=mX n:=⟨_,rfl⟩;rw[<-l] at g ⊢
 have r:m<=1000:=by omega
 refine ba func331 ntmps331 ?_;refine ap ?_;intro h s t;refine aY ?_;refine sT m dj rfl rfl rfl g (by simp only[maxLen];omega) aa λd u v=>?_;refine b6 ?_;refine cd (ι:=Nat) (λb=>[(3,ptr h),(5,.slice (some ⟨d,0,none⟩) m m),(12,ad (m:Int)),(13,ad (b:Int))]) (λb=>ag a [] [qw d m m (f_ (List.replicate m eo) 0 b aq aR),aG h [ad aq,ad aR] 77]) (λb=>b<=m) (λb=>m - b) ?_ ?_;exact λi e=>⟨0,b4 _,(da rfl rfl rfl rfl),by
  have f:f_ (List.replicate m eo) 0 0 aq aR=List.replicate m eo:=by simp[f_]
  rw[f];rw[Pw] at e
  exact e⟩
 intro b w;refine (aE) (λo=>?_) λo=>cn ?_;have x:b<m:=by omega
 have y: (f_ (List.replicate m eo) 0 b aq aR).length=m:=by rw[w6 (by simp;omega),hy]
 have p:f_ (List.replicate m eo) 0 (b+1) aq aR=(f_ (List.replicate m eo) 0 b aq aR).set b (hr aq aR):=by
  unfold f_;apply jY
  intro c;rw[nB];simp only[List.take_zero,mA,ev,List.drop_replicate,List.getElem?_append,b3,hy,sA];by_cases j:c<b
  simp[j,show ¬b=c by omega,show c<b+1 by omega]
  by_cases q:c=b
  subst q;simp;omega
  simp only[j,show ¬b=c by omega,show ¬c<b+1 by omega,if_false];by_cases z:c<m
  rw[aB aa,aB aa];rw[ai aa,ai aa]
 refine cZ ?_;refine bF (G_ · aq aR)<|bE (q:=b) dj rfl rfl rfl rfl aa aa ?_;refine oy (o:=b*8) gh rfl rfl cJ (by rw[Addr.add_lit,ev]) rfl (bW.kz _) (by rw[bW.eD];show b*8+8<=(f_ (List.replicate m eo) 0 b aq aR).length*8;omega) ?_;refine aU ?_;refine bv (b+1) aa aa (da rfl rfl rfl rfl) λi e=>?_;rw[p];show ag a [] [own 81 8 (.slice (some ⟨d,0,none⟩) m m) m (bW.all<|(f_ (List.replicate m eo) 0 b aq aR).set b<|hr aq aR),_] i
 rw[<-uX (hr aq aR) (by omega:b<(f_ (List.replicate m eo) 0 b aq aR).length)];exact e;intro A k;have:b=m:=by omega
 subst this;have f:f_ (List.replicate b eo) 0 b aq aR=List.replicate b (hr aq aR):=by simp[f_]
 rw[f] at k
 exact gr.of (Value.slice (some ⟨d,0,none⟩) b b) bh (by simp only[ep,hy];exact k.aF ah)
def kM.aD{b:World}(d:kM I i J b):gr (λa:Option Addr × Nat=>Value.slice a.1 I.length a.2) (λa=>ep (.slice a.1 I.length a.2) I) (λ_=>True) i J b:=by
 obtain⟨e,_,rfl,f,c,g,h⟩:=d;obtain⟨j,k,rfl⟩:=yG<|show b.ownsRow 0 81 8 e I.length (bW.all I) from c;exact⟨(j,k),bh,rfl,f,c,g,h⟩
def Co(e:o.aq.pred a)(aq aR:Int):ay 241 [ptr o.g,.agg [ad aq,ad aR].toArray] a
 (gr (λc:b_=> .agg c.enc.toArray) b_.aQ (λc=>c.fI=(List.replicate (mX o.al)<|hr aq aR,false)) a):=by
 refine ba func241 ntmps241 ?_;refine ap ?_;intro k l m;refine av ?_;intro n p q;refine ap ?_;refine bN [0,1,2,3,4] 2 [[(5,false,[6]),(7,true,[])]] ?_;refine ap ?_;refine aO rfl (λr f=>(bb bY rfl rfl (λs h=>by subst h;exact f.cc e (by (simp;done)) rfl) aJ)) ?_;refine ap ?_;refine hf (λi t=>(Px i o.al aq aR).mono λ_ _ b=>b.aD) λd _=>?_;refine cv (λ_=>True) (λ_ b=> .inr<|b.rem bH.head) (λ_ b=>bh)<|be ?_;exact λu j=>gr.of (⟨d.1,d.2,false,List.replicate (mX o.al)<|hr aq aR⟩ :b_) rfl<|j.aF ah
def rQ(e:bc a (b9 o))(f:dx o.r)(q:o.bu.l.length<=1550000000000)(b c d:Int):
 ay 314 [ptr o.g,ad b,ad c,ad d] a (jj o (gD o.abs b c d) a):=by
 refine bX func314 ntmps314 e ?_;refine bP ?_;intro s t u;refine hW (news:=lD.enc ⟨b,c,d⟩) BI rfl rfl rfl bx (λ_=>by exact j5) rfl (lD.kz _) (by simp only[maxLen];omega) aa λh v=>?_;refine kA (e:=232) (sz:=3) (v:=h) j4 λi j k _ _ _ _=>?_;subst k;refine aI ?_;intro w m;refine aX.cf (i:={ o with bu:=⟨i,j,o.bu.l++[⟨b,c,d⟩]⟩ }) ⟨rfl,f,rfl⟩ rfl ?_;have n: (o.bu.l++[(⟨b,c,d⟩ :fb)]).length=o.bu.l.length+1:=by simp
 have p:lD.all (o.bu.l++[(⟨b,c,d⟩ :fb)])=lD.all o.bu.l++lD.enc ⟨b,c,d⟩:=b1.iP lD _ _
 refine ag.aF m (cs':=[]) ?_;simp only[b9,bQ.aq,qv,nM.val,nM.aD,n,p];exact aP.cons bx ah
def bC.Py{cs:List Chunk}{a:Chunk}(b:bC cs K a e):Has e a:=by
 induction b with
 | head=>exact Has.head
 | tail _ c=>exact Has.tail c
def rR{E:b1 g}{i:Operand}{j:Nat}{p:List Value}{m:Nat}{xs:List Value}{src:List g}{F:Nat->Prop}(q:m+G=c)(r:dD P f s E.ax j p)(u:Nat.blt d n=true)
 (v:bi l z=some L) (w:bi l i=some (.slice t G H)) (k: ∀a,bC cs (own s E.ax L m xs) (own s E.ax a c<|xs++E.all src)<|M a)
 (x: ∀o,ag b S cs o->Rd E o F t G H src) (y:m+G<=maxLen) (A: (m+G)*j<=140737488355328)
 (B: ∀e h,aM P n ops Q rest ((d,.slice e c h)::l)<|ag b S<|M<|.slice e c h):
 aM P n ops Q (⟨some d,.call ⟨.builtin .append,#[z,i],#[f,f]⟩,ty,pos,bf,none⟩::rest) l (ag b S cs):=by
 subst q;exact qj r u v w k x y A λa _=>kA (k a).Py (λe h C _ _ _ _=>by subst C;exact B e h)
abbrev u2(b:World):=gr (λa:b_=>Value.agg a.enc.toArray) b_.aQ (λa=>a.fI=D) b
def Cp(n f:Nat)(b:List aL)(d:Bool)(g:Rd bW a v u n f b)(m:n<=1000000):ay 121 [.agg [.slice u n f,.bool d].toArray] a (u2 (b,d) a):=by
 have h:=g.len
 refine ba func121 ntmps121 ?_;refine ap ?_;intro o p q;refine av ?_;intro r s t;refine ap ?_;refine lz 81 8<|fg [0,1,3,4] 2 [[(2,false,[5]),(6,true,[])]] (_) mixed ak (λ_ e=>e.drew) (λ_ c=>c.rem bH.head)<|aH ?_;refine rR (E:=bW) (m:=0) (xs:=[]) b.length aa dj rfl rfl rfl (λ_=>by exact cJ) (λw i=>g.ext i.ext au) (by simp only[maxLen];omega) aa λj k=>?_;refine cv (λ_=>True) (λ_ c=> .inr<|c.rem bH.head) (λ_ c=>bh)<|be ?_;intro x e;have l:n=b.length:=h.symm
 subst l;exact gr.of (⟨j,k,d,b⟩ :b_) rfl<|e.aF ah
def Hf(n f:Nat)(b:List aL)(d:Bool)(g:Rd bW a v u n f b)(m:n<=1000000):ay 56 [.agg [.slice u n f,.bool d].toArray] a (u2 (b,d) a):=by
 have h:=g.len
 refine ba func56 ntmps56 ?_;refine ap ?_;intro o p q;refine av ?_;intro r s t;refine ap ?_;refine lz 81 8<|fg [0,1,3,4] 2 [[(2,false,[5]),(6,true,[])]] (_) mixed ak (λ_ e=>e.drew) (λ_ c=>c.rem bH.head)<|aH ?_;refine rR (E:=bW) (m:=0) (xs:=[]) b.length aa dj rfl rfl rfl (λ_=>by exact cJ) (λw i=>g.ext i.ext au) (by simp only[maxLen];omega) aa λj k=>?_;refine cv (λ_=>True) (λ_ c=> .inr<|c.rem bH.head) (λ_ c=>bh)<|be ?_;intro x e;have l:n=b.length:=h.symm
 subst l;exact gr.of (⟨j,k,d,b⟩ :b_) rfl<|e.aF ah
def qy(a:dx j){i:Int}(b:0<=i)(c:i<j.s.l.length):0<=e5 j i/\e5 j i<j.s.l.length:=by
 have d:=a.first
 unfold e5;split <;> omega
def qz :bq:=((h.s.l[(e5 h c).toNat]?).map b_.fI).getD ([],false)
def pt :h.rows[c]? = if c<h.n.toNat then some (qz h c) else none:=by
 unfold dQ.rows qz;rw[fw];by_cases a:c<h.n.toNat
 rw[aB a,uj a];rfl
 rw[ai a,hK<|by simpa using a];rfl
def lE :h.rows.length=h.n.toNat:=by simp[dQ.rows]
def l9 :dQ:={ h with s:={ h.s with l:=h.s.l.set h.first.toNat kJ },first:=e5 h 1,n:=h.n - 1,gone:=(h.gone+1)%18446744073709551616 }
def Pz(a:dx j)(b:1<=j.n):dx (l9 j):=by
 have c:=a.n;have d:=a.first;have e:=a.gone
 have f:=qy a (i:=1) aa
 refine⟨by simpa [l9] using a.len,a.room,?_,?_,?_⟩;simp only[l9,gx];omega
 simp only[l9,gx];unfold e5;split <;> omega
 simp only[l9];omega
def PA(a:dx j)(f:1<=j.n): (l9 j).rows=j.rows.tail:=by
 have g:=a.n;have h:=a.first
 apply jY
 intro i;rw[List.getElem?_tail,pt,pt];by_cases b:i+1<j.n.toNat
 ·rw[aB b,aB<|by simp only[l9];omega]
  have d:e5 (l9 j) i=e5 j ((i+1 :Nat):Int):=by
   simp only[e5,l9,gx];repeat' split
   all_goals omega
  have c:=qy a (i:=((i+1 :Nat):Int)) aa aa
  have e:j.first.toNat≠(e5 j ((i+1 :Nat):Int)).toNat:=by
   unfold e5 at c ⊢
   split at c <;> split <;> omega
  unfold qz;rw[d];simp only[l9];rw[ks e]
 ·rw[ai b,ai<|by simp only[l9];omega]
def l_ :dQ:={ h with s:={ h.s with l:=h.s.l.set (e5 h h.n).toNat N },n:=h.n+1 }
def PB(a:dx j)(e:j.n<j.s.l.length)(b:b_):dx (l_ j b):=by
 have f:=a.n;have c:=a.first;have d:=a.gone
 exact⟨by simpa [l_] using a.len,a.room,by simp only[l_,gx];omega,by simpa [l_] using c,d⟩
def PC(a:dx j)(h:j.n<j.s.l.length)(c:b_): (l_ j c).rows=j.rows++[c.fI]:=by
 have o:=a.n;have p:=a.first
 have f:=qy a (i:=j.n) aa h
 apply jY
 intro i;rw[List.getElem?_append,pt,lE];have g: ∀d:Int,e5 (l_ j c) d=e5 j d:=λd=>by simp[e5,l_]
 by_cases e:i<j.n.toNat
 rw[aB e,aB<|by simp only[l_];omega,pt,aB e];have k: (e5 j j.n).toNat≠(e5 j (i:Int)).toNat:=by
  have b:=qy a (i:=(i:Int)) aa aa
  unfold e5 at f b ⊢
  split at f <;> split at b <;> omega
 unfold qz;rw[g];simp only[l_];rw[ks k];rw[ai e];by_cases b:i=j.n.toNat
 subst b;rw[aB (by simp only[l_];omega),ov];unfold qz;rw[g];have m: ((j.n.toNat:Nat):Int)=j.n:=by omega
 rw[m];simp only[l_];rw[oo aa];rfl
 rw[ai (by simp only[l_];omega),hK<|by simp;omega]
def Hg{w:World}{a:List Nat}{r':dQ}{k:Nat}{b g:b_}(d:j.s.l[k]? = some b)(f:r'.s.A=j.s.A)(h:r'.s.c=j.s.c)(o:r'.s.l=j.s.l.set k g)(p:m=cx.all (j.s.l.set k g))(q:ag i a e w)
 (r:aP e [g.aQ,j.s.cw,aG r'.g [j.s.val,ad r'.room,ad r'.first,ad r'.n,.int .u64 r'.gone] 220,own 39 2 j.s.val j.s.l.length m] B):ag i a (cP r') w:=by
 have t:=q.aF r
 have u:=t.Cf (k:=k) (c:=b.aQ) (by simp[d])
 have v:cP r'=[aG r'.g [j.s.val,ad r'.room,ad r'.first,ad r'.n,.int .u64 r'.gone] 220,own 39 2 j.s.val j.s.l.length m,aZ<|(j.s.l.map b_.aQ).set k g.aQ]:=by
  subst p;simp only[cP,dQ.aq,Cg,dz.val,dz.aD,dz.cw,f,h,o,gx,p6]
 rw[v];exact u.aF ah
def ag.PD{w:World}(a:ag i k e w):ag i k (kJ.aQ::e) w:=a.pb ⟨rfl,.inl ⟨rfl,rfl⟩⟩ rfl
def PE(i:bc a (cP h))(b:dx h)(v:1<=h.n):ay 457 [ptr h.g] a (aX (λd:b_=> .agg d.enc.toArray) (cP h) (λ_=>cP<|l9 h) (λ_=>True) a):=by
 have w:=b.n;have x:=b.first;have y:=b.len;have A:=b.room;have B:=b.gone
 obtain⟨d,e⟩:=ti (r:=h.s) (i.all _ au) aa;have j:h.s.val= .slice (some ⟨d,0,none⟩) h.s.l.length h.s.c:=by rw[dz.val,e]
 obtain⟨z,k⟩ : ∃z,h.s.l[h.first.toNat]? = some z:=⟨h.s.l[h.first.toNat]'aa,bD _⟩;have C:=qy b (i:=1) aa
 refine bX func457 ntmps457 i ?_;refine ap ?_;intro D E F;refine ap ?_;refine bN [0,1,2,3,4,5,6,7,8,9] 2 [[(10,false,[]),(11,true,[])]] ?_;refine aY ?_;refine aO rfl (λm f=>(bE (q:=h.first.toNat) dy rfl rfl rfl e aa aa aJ)) ?_;refine aO rfl (λm f=>(cE gG rfl rfl rfl (λG p q r t=>by subst p;exact f.zo (E:=cx) cW j k q r t) aJ)) ?_;refine ap ?_;intro H I J;refine cv (λ_=>True) (λ_ o=> .inr<|o.rem bH.head) (λ_ o=>bh)<|aY ?_;refine bN [0,1,2,3,4,5,6,7,8,9] 1 [[(10,true,[])]] ?_;refine a6 ?_;refine aO rfl (λm f=>(bE (q:=h.first.toNat) dy rfl rfl rfl e aa aa aJ))<|aA ?_;refine zp j (o:=h.first.toNat*2) gG rfl rfl oH (by rw[Addr.add_lit,ev]) rfl (cx.kz kJ) (by rw[cx.eD];show h.first.toNat*2+2<=h.s.l.length*2;omega) ?_;refine aY ?_;refine cU (hargs:=rfl) (ze · h · _ aa aa aa)<|qp ?_;refine jB (r:=(h.gone+1)%18446744073709551616) rfl rfl rfl (by simp[IntKind.wrap,IntKind.bits,IntKind.signed])<|cn ?_;exact λK u=>aX.cf (i:=z) bh rfl<|Hg (r':=l9 h) (g:=kJ) k rfl rfl rfl (b1.kC cx kJ aa) (ag.PD u) ah
def Hh(f:bc a (cP h))(b:dx h):ay 315 [ptr h.g] a (aX (λ_:dQ=>ad h.n) (cP h) cP (λd=>d.g=h.g/\d.room=h.room/\dx d/\d.rows=[]) a):=by
 have m:=b.n;have o:=b.first;have p:=b.len;have i:=b.room;have q:=b.gone
 refine bX func315 ntmps315 f ?_;refine aY ?_;refine cU (zd · h ·) ?_;refine (aE) (λj=>nI ?_) λj=>be ?_;refine dW rfl rfl underlying3 underlying63 (r:=h.n) (by simp[IntKind.wrap,IntKind.bits,IntKind.signed];omega) ?_;refine jB (r:=(h.gone+h.n)%18446744073709551616) rfl rfl rfl (by simp[IntKind.wrap,IntKind.bits,IntKind.signed])<|cn ?_;exact λk e=>aX.cf (i:=(⟨h.g,⟨none,0,[]⟩,h.room,0,0,(h.gone+h.n)%18446744073709551616⟩ :dQ)) ⟨rfl,rfl,⟨by simp;omega,i,by simp,by simp,by simp;omega⟩,rfl⟩ rfl<|(ag.pb (ag.pb e (c:=aZ []) (λc l=>by simp at l) rfl) (c:=own 39 2 (.slice none 0 0) 0 []) ⟨rfl,.inl ⟨rfl,rfl⟩⟩ rfl).aF ah
 exact λk e=>aX.cf (i:=h) ⟨rfl,rfl,b,jX<|by rw[lE];omega⟩ rfl e
def ag.Cq{w:World}{a:List Chunk}(b:ag i k (aZ B::aZ a::e) w):ag i k (aZ (B++a)::e) w:=by
 have c:=b.mQ
 have d:ag i k (aZ a::(B++e)) w:=c.perm p_
 have f:=d.mQ
 refine ag.close'<|f.perm ?_;rw[<-ec];exact List.Perm.append_right _ p9
def PF :gg [.slice none 0 0,.bool false] c=cx.all (List.replicate c kJ):=by
 induction c with
 | zero=>rfl
 | succ c a=>
  rw[oq];show gg _ (c+1)=cx.enc kJ++cx.all (List.replicate c kJ)
  rw[<-a];rfl
def j8 :List b_:=h.s.l.drop h.first.toNat++h.s.l.take h.first.toNat
def Hi(b:dx j)(c:f<j.s.l.length): (j8 j)[f]? = j.s.l[(e5 j f).toNat]? :=by
 have d:=b.first
 unfold j8 e5;rw[List.getElem?_append,fL,ja,iu];by_cases a:f<j.s.l.length - j.first.toNat
 rw[aB a,ai aa];congr 1;omega
 rw[ai a,aB aa,aB aa];congr 1;omega
def Cr(a:dx j): (j8 j).length=j.s.l.length:=by
 have b:=a.first
 simp only[j8,b3,fL,dR];omega
def lF :Int:=min h.room<|max 4<|2*(h.s.l.length:Int)
def j9 :dQ:={ h with s:=⟨some ⟨c,0,none⟩,(lF h).toNat,j8 h++List.replicate ((lF h).toNat - h.s.l.length) kJ⟩,first:=0 }
def Hj{g:Nat}(a:dx j): (j9 j g).s.l.length=(lF j).toNat:=by
 have b:=a.len;have c:=a.room
 simp only[j9,b3,Cr a,hy,lF];omega
def Hk{r:dQ}(a:dx r)(f:r.n=r.s.l.length)(g:r.n<r.room)(b:Nat):dx (j9 r b)/\(j9 r b).n<(j9 r b).s.l.length:=by
 have h:=a.len;have d:=a.room;have i:=a.n;have e:=a.gone
 have c:=Hj (g:=b) a
 have j:r.n<lF r:=by unfold lF;omega
 refine⟨⟨?_,d,?_,?_,e⟩,?_⟩;rw[c];simp only[j9];unfold lF at *;omega
 rw[c];simp only[j9];omega
 rw[c];simp only[j9];omega
 rw[c];simp only[j9];omega
def PG{r:dQ}(a:dx r)(g:r.n=r.s.l.length)(h:r.n<r.room)(b:Nat): (j9 r b).rows=r.rows:=by
 have j:=a.len;have k:=a.room;have m:=a.n
 have d:=Hj (g:=b) a
 have o:r.n<lF r:=by unfold lF;omega
 apply jY
 intro i;rw[pt,pt];by_cases c:i<r.n.toNat
 rw[aB c,aB<|by simp only[j9];omega];have e:e5 (j9 r b) i=i:=by
  have f: (j9 r b).first=0:=rfl
  unfold e5;rw[d,f];split <;> omega
 unfold qz;rw[e];simp only[j9,gw];rw[om (by rw[Cr a];omega),Hi a aa];rw[ai c,ai<|by simp only[j9];omega]
def PH(r:dQ)(m:bc a (cP r))(b:dx r)(R:r.n=r.s.l.length)(S:r.n<r.room):ay 458 [ptr r.g] a (aX (λ_:Nat=> .tuple #[]) (cP r) (λj=>cP<|j9 r j) (λ_=>True) a):=by
 have T:=b.n;have U:=b.first;have V:=b.len;have W:=b.room;have X:=b.gone
 have Y:r.n<lF r:=by unfold lF;omega
 obtain⟨ax,o⟩ : ∃ax:Nat,lF r=(ax:Int):=⟨(lF r).toNat,aa⟩;have Z: (ax:Int)<=100000:=by rw[<-o];unfold lF;omega
 have Za:=Cr b
 refine bX func458 ntmps458 m ?_;refine av ?_;refine mG ([(0,ptr r.g),(2,ad (ax:Int))]) (ag a (aK<|cP r)<|cP r) ?_<|a7 ?_
 ·refine bN [0,1,2,3,4,5,6,7,8,9,10,11,12] 0 [[]] ?_
  refine a6 ?_;refine aO rfl (λk f=>(mD rfl rfl rfl (wrap64 aa aa) aJ))<|aI ?_;refine iQ ?_ λ_ d=>d;rw[<-o];exact (ig rfl rfl)
 ·refine sT ax dy rfl rfl rfl rfl (by simp only[maxLen];omega) aa λe Zb Zc=>?_
  refine cZ ?_;refine cd (ι:=Nat) (λi=>[(0,ptr r.g),(3,.slice (some ⟨e,0,none⟩) ax ax),(22,ad r.n),(23,ad (i:Int))]) (λi=>ag a (aK<|cP r)<|own 39 2 (.slice (some ⟨e,0,none⟩) ax ax) ax (cx.all<|(j8 r).take i++List.replicate (ax - i) kJ)::cP r) (λi=>(i:Int)<=r.n) (λi=>r.n.toNat - i) ?_ ?_
  ·exact λu h=>⟨0,aa,(da rfl rfl rfl rfl),by
    rw[PF] at h
    simpa using h⟩
  ·intro i Zd
   refine (aE) (λv=>?_) λv=>?_
   ·obtain⟨j,p⟩:=ti (r:=r.s) (m.all _ au) aa
    have w:r.s.val= .slice (some ⟨j,0,none⟩) r.s.l.length r.s.c:=by rw[dz.val,p]
    have Ze:=qy b (i:=(i:Int)) aa aa
    obtain⟨z,q⟩ : ∃z,r.s.l[(e5 r i).toNat]? = some z:=⟨r.s.l[(e5 r i).toNat]'aa,bD _⟩;have x: (j8 r)[i]? = some z:=by rw[Hi b aa];exact q
    have y: (j8 r).take (i+1)++List.replicate (ax - (i+1)) kJ=((j8 r).take i++List.replicate (ax - i) kJ).set i z:=by
     have A: ((j8 r).take i).length=i:=by rw[dR];omega
     rw[hA,x,rm _ _ aa,A,ov,show ax - i=(ax - (i+1))+1 by omega,oq,nC];simp
    have B: ((j8 r).take i++List.replicate (ax - i) kJ).length=ax:=by
     simp only[b3,dR,hy];omega
    refine be ?_;refine bN [0,1,2,3,4,5,6,7] 2 [[(8,false,[9,10,11]),(12,true,[])]] ?_;refine be ?_;refine cU (hargs:=rfl) (ze · r · _ aa aa aa)<|cv (_) (λ_ d=> .inr d) (λ_ d=>d) ?_;refine aO rfl (λk f=>(bE (q:=(e5 r i).toNat) dy rfl rfl rfl p aa aa aJ)) ?_;refine aO rfl (λk f=>(cE gG rfl rfl rfl (λZf C D E F=>by subst C;exact f.zo (E:=cx) cW w q D E F) aJ)) ?_;refine aO rfl (λk f=>(bE (q:=i) dy rfl rfl rfl rfl aa aa aJ))<|aA ?_;refine oy (o:=i*2) gG rfl rfl cJ (by rw[Addr.add_lit,ev]) rfl (cx.kz z) (by rw[cx.eD,B];show i*2+2<=ax*2;omega) ?_;refine a6 ?_;refine bv (i+1) aa aa (da rfl rfl rfl rfl) λu h=>?_;rw[y,<-b1.kC cx z aa];exact h
   ·have G:i=r.s.l.length:=by omega
    refine ft ?_;intro H t;have I: (j8 r).take i=j8 r:=eT aa
    rw[I,G] at t
    have J: (lF r).toNat=ax:=by omega
    refine aX.of (e:Nat) bh ?_;have K:=t.aF (l:=[r.s.cw,aG r.g [.slice (some ⟨e,0,none⟩) ax ax,ad r.room,z0,ad r.n,.int .u64 r.gone] 220,own 39 2 (.slice (some ⟨e,0,none⟩) ax ax) ax<|cx.all<|j8 r++List.replicate (ax - r.s.l.length) kJ]) ah
    have L:List.Perm (r.s.l.map b_.aQ) ((j8 r).map b_.aQ):=by
     refine List.Perm.map _ ?_;unfold j8;conv=>lhs;rw[<-iJ r.first.toNat r.s.l]
     exact p9
    have M:=K.G6 L
    have N:ag a _ (aZ ((j8 r).map b_.aQ)::aZ (List.replicate (ax - r.s.l.length) kJ.aQ)::_) H:=(ag.pb M (c:=aZ<|List.replicate (ax - r.s.l.length) kJ.aQ) (λc O=>by rw[k6 O];exact⟨rfl,.inl ⟨rfl,rfl⟩⟩)<|by simp[aZ,aK,own,Value.ownBlock]).perm<|List.Perm.swap _ _ _
    have P:=N.Cq
    have Q: (j8 r++List.replicate (ax - r.s.l.length) kJ).length=ax:=by
     simp only[b3,hy];omega
    simp only[cP,dQ.aq,Cg,dz.val,dz.aD,dz.cw,j9,J,Q,gF,List.map_replicate];exact P.aF ah
def pu(a:bq):List bq:=if q=0 then O else (if (O.length:Int)=q then O.tail else O)++[a]
def Cs(S:bc a (cP h))(f:dx h)(v:Nat->Prop)(w:Option Addr)(p x:Nat)(y:List aL)(B:Bool)(T:Rd bW a v w p x y)(U: ∀K,v K->K∉aK (cP h))(V:p<=1000000):
 ay 389 [ptr h.g,.agg [.slice w p x,.bool B].toArray] a
  (aX (λi:List Value × dQ=> .tuple #[.agg i.1.toArray,.bool<|decide<|h.n=h.room]) (cP h) (λi=>cP i.2) (λi=>i.2.g=h.g/\i.2.room=h.room/\dx i.2/\i.2.rows=pu h.rows h.room (y,B)/\i.1.length=2/\aV i.1) a):=by
 have W:=f.n;have X:=f.first;have Y:=f.len;have Z:=f.room;have Zq:=f.gone
 refine bX func389 ntmps389 S ?_;refine ap ?_;intro q Zr Zs;refine av ?_;intro r Zt Zu;refine fa ?_;refine hf (λZa Zb=>Cp Za v w p x y B (T.ext Zb.ext U) V) λd Zc=>?_;refine (aE) (λC=>aH ?_) λC=>aI ?_;refine jB (r:=(h.gone+1)%18446744073709551616) rfl rfl rfl (by simp[IntKind.wrap,IntKind.bits,IntKind.signed])<|cZ ?_;refine iy results389 (c_.fx gG rfl cz rfl rfl) (c_.tmp rfl) λZd D=>?_;exact aX.cf (i:=(d.enc,{ h with gone:=(h.gone+1)%18446744073709551616 })) ⟨rfl,rfl,⟨Y,Z,W,X,by simp only;omega⟩,by rw[pu,aB C];rfl,rfl,cx.kz d⟩ (by rw[bI (by omega:h.n=h.room)];rfl)<|D.aF ah;intro t Zv Zw;refine ap ?_;refine bN [0,1,2,3,4,5,6,7,8,9] 0 [[]] ?_;refine dO ?_;have Zx:=lE h
 refine a7 ?_;refine gA (λi:Value × Value × dQ=>[(0,ptr h.g),(3,ptr q),(4,ptr r),(6,ptr t),(7,.bool<|decide<|h.n=h.room)]) (λi=>ag a (aK<|cP h)<|aG t [i.1,i.2.1] 39::d.aQ::aG r [.slice none 0 0,.bool false] 39::aG q d.enc 39::cP i.2.2) (λi=>aV [i.1,i.2.1]/\i.2.2.g=h.g/\i.2.2.room=h.room/\dx i.2.2/\i.2.2.n<i.2.2.room/\i.2.2.rows=(if (h.rows.length:Int)=h.room then h.rows.tail else h.rows)) ?_ ?_;refine (cj) (λZe=>aA ?_) λZe=>av ?_;refine (dg) (PE · h · f aa) λu Zy=>aA ?_;refine dN (.slice u.A u.cells.length u.c,.bool u.cont,l9 h) ⟨aV.cons rfl<|aV.cons rfl aV.nil,rfl,rfl,Pz f aa,by show h.n - 1<h.room;omega,?_⟩ (en rfl rfl rfl rfl rfl) λ_ k=>ag.aF k ah;rw[PA f aa,aB aa];refine dN (.slice none 0 0,.bool false,h) ⟨aV.cons rfl<|aV.cons rfl aV.nil,rfl,rfl,f,by show h.n<h.room;omega,?_⟩ (en rfl rfl rfl rfl rfl) λ_ k=>ag.aF k ah;rw[ai aa];rintro⟨L,M,m⟩ ⟨E,N,F,e,o,G⟩;dsimp only at E N F e o G ⊢
 rw[<-N];have Zz:=e.n;have ZA:=e.first;have ZB:=e.len;have ZC:=e.room
 refine ap ?_;refine bN [0,1,2,3,4,5,6,7,8,9] 0 [[]] ?_;refine cn ?_;refine gA (λi:Value × Value × dQ=>[(0,ptr m.g),(3,ptr q),(4,ptr r),(6,ptr t),(7,.bool<|decide<|h.n=h.room)]) (λi=>ag a (aK<|cP h)<|aG t [i.1,i.2.1] 39::d.aQ::aG r [.slice none 0 0,.bool false] 39::aG q d.enc 39::cP i.2.2) (λi=>aV [i.1,i.2.1]/\i.2.2.g=m.g/\i.2.2.room=h.room/\dx i.2.2/\i.2.2.n<i.2.2.room/\i.2.2.rows=(if (h.rows.length:Int)=h.room then h.rows.tail else h.rows)/\i.2.2.n<i.2.2.s.l.length) ?_ ?_;refine (cj) (λZf=>aA ?_) λZf=>av ?_;refine (dg) (PH · m · e aa o) λH _=>?_;refine av ?_;refine dN (L,M,j9 m H) ⟨E,rfl,F,(Hk e aa o H).1,o,?_,(Hk e aa o H).2⟩ (en rfl rfl rfl rfl rfl) λ_ k=>ag.aF k ah;rw[PG e aa o];exact G
 exact dN (L,M,m) ⟨E,rfl,F,e,o,G,by show m.n<m.s.l.length;omega⟩ b5 λ_ k=>k;rintro⟨Zg,Zh,b⟩ ⟨I,O,P,j,Zi,Q,J⟩;dsimp only at I O P j Zi Q J ⊢
 rw[<-O];have ZD:=j.n;have ZE:=j.first;have ZF:=j.len;have ZG:=j.room
 have ZH:=qy j (i:=b.n) aa aa
 refine jd (e:=39) (sz:=2) (v:=b.s.val) kG λZI ZJ Zj _ _ _ Zk=>?_;injection Zj with Zl _ Zm
 subst Zl Zm;obtain⟨Zn,R⟩:=Zk aa;have Zo:b.s.val= .slice (some ⟨Zn,0,none⟩) b.s.l.length b.s.c:=by rw[dz.val,R]
 obtain⟨z,Zp⟩ : ∃z,b.s.l[(e5 b b.n).toNat]? = some z:=⟨b.s.l[(e5 b b.n).toNat]'aa,bD _⟩;refine av ?_;refine bN [0,1,2,3,4,5,6,7,8,10] 2 [[(9,false,[11]),(12,true,[])]] ?_;refine b6 ?_;refine cU (hargs:=rfl) (ze · b · _ aa aa aa)<|av ?_;refine aO rfl (λZK ZL=>(bE (q:=(e5 b b.n).toNat) dy rfl rfl rfl R aa aa aJ))<|aA ?_;refine zp Zo (o:=(e5 b b.n).toNat*2) gG rfl rfl uJ (by rw[Addr.add_lit,ev]) rfl (cx.kz d) (by rw[cx.eD];show (e5 b b.n).toNat*2+2<=b.s.l.length*2;omega) ?_;refine gR ?_;refine fR gG rfl rfl l4 rfl I (ej rfl)<|a7 ?_;refine iy results389 (c_.fx gG rfl cW rfl rfl) (c_.tmp rfl) λZd D=>aX.cf (i:=([Zg,Zh],l_ b d)) ⟨rfl,P,PB j J _,?_,rfl,I⟩ rfl<|Hg (r':=l_ b d) (g:=d) Zp rfl rfl rfl (b1.kC cx d aa) D ah;rw[PC j J,Zc,pu,ai C,Q]
def Hl{c:Type}{E:b1 c}{l:Operand}{d :Nat}{v0:Value}{g h r n u:Nat}{L:List c}{o:Option Addr}{j p:Nat}{src:List c}{F:Nat->Prop}(v:v0= .slice (some ⟨g,0,none⟩) h r)(b a:Nat)(w:a=min j n)(x:dD R d G E.ax H m)(y:Nat.blt s f=true)
 (A:bi W z=some (.slice t n u)) (C:bi W l=some (.slice o j p)) (D:0<a->t=some ⟨g,b*E.ax,none⟩) (I:b+a<=L.length)
 (J:bC e (own G E.ax v0 h<|E.all L) (own G E.ax v0 h<|E.all<|L.take b++src.take a++L.drop (b+a)) B)
 (K: ∀q,ag i k e q->Rd E q F o j p src)
 (M:aM R f T U V ((s,ad (a:Int))::W) (ag i k B)):
 aM R f T U (⟨some s,.call ⟨.builtin .copy,#[z,l],#[d,d]⟩,X,Y,Z,none⟩::V) W (ag i k e):=by
 subst v;exact zi b a w x y A C D I J K M
def iD{α:Type}(a:List α)(b c:Nat)(d:α):List α:=
 if b<c then a.take b++(a.drop<|b+1).take (c - b)++[d]++a.drop (c+1) else a.take c++[d]++(a.drop c).take (b - c)++a.drop (b+1)
def Ct{a:List g}{r:g}(b:f<a.length)(c:s<a.length): (iD a f s r).length=a.length:=by
 unfold iD;split <;> simp only[b3,dR,fL,dV,gN] <;> omega
def PI{f:Type}(a:g->f)(b:List g)(c d:Nat)(e:g): (iD b c d e).map a=iD (b.map a) c d (a e):=by
 unfold iD;split <;> simp[List.map_take,List.map_drop]
def PJ{a:g}(c:f<r.length)(d:s<r.length):List.Perm (r.set f a) (iD r f s a):=by
 rw[sH,aB c];unfold iD;split
 have b:r.drop (f+1)=(r.drop<|f+1).take (s - f)++r.drop (s+1):=by
  conv=>lhs;rw[<-iJ (s - f) (r.drop<|f+1)]
  rw[ls,show f+1+(s - f)=s+1 by omega]
 conv=>lhs;rw[b]
 simp only[ec];refine List.Perm.append_left _ ?_;rw[<-ul (x:=a),<-ec,<-ec];exact List.Perm.append_right _ p9;have b:r.take f=r.take s++(r.drop s).take (f - s):=by
  conv=>lhs;rw[show f=s+(f - s) by omega,List.take_add]
 rw[b];simp only[ec];refine List.Perm.append_left _ ?_;rw[<-ul (x:=a),<-ec,<-ec];exact List.Perm.append_right _ p9
def PK{a:List g}{r:g}(b:f<s)(c:s<a.length): (a.take f++((a.take<|s+1).drop<|f+1).take (s - f)++a.drop (f+(s - f))).set s r=iD a f s r:=by
 rw[iD,aB b,show f+(s - f)=s by omega];have d: ((a.take<|s+1).drop<|f+1).take (s - f)=(a.drop<|f+1).take (s - f):=by
  rw[List.drop_take,List.take_take,show min (s - f) (s+1 - (f+1))=s - f by omega]
 rw[d,rm _ _<|by simp;omega];have e:s - (a.take f++(a.drop<|f+1).take (s - f)).length=0:=by simp;omega
 rw[e,lY c,nC];simp
def PL{a:List g}{r:g}(b: ¬f<s)(e:f<a.length): (a.take (s+1)++((a.take f).drop s).take (f - s)++a.drop (s+1+(f - s))).set s r=iD a f s r:=by
 rw[iD,ai b,show s+1+(f - s)=f+1 by omega];have c: ((a.take f).drop s).take (f - s)=(a.drop s).take (f - s):=by
  rw[List.drop_take,List.take_take,Nat.min_self]
 rw[c,ec,List.set_append_left _ _<|by simp;omega];have d: (a.take<|s+1).set s r=a.take s++[r]:=by
  rw[hA,bD aa,rp,rm _ _<|by simp only[dR];omega];have:s - (a.take s).length=0:=by simp;omega
  rw[this];rfl
 rw[d];simp
def tj(l:List b_):bQ:={ o with s:={ o.s with l:=l } }
def Cu{r:dz}(a:r.aD.pred i):Rd cx i (λ_=>True) r.A r.l.length r.c r.l:=by
 obtain⟨g,h,b,d⟩:=Rd.ho (E:=cx) (show i.ownsRow 0 39 cx.ax r.val r.l.length (cx.all r.l) from a) rfl;injection b with e j f
 subst e f;exact d.d8 λ_ _=>bh
def Hm{w:World}{b:Nat}{a:b_}(c:f<x.s.l.length)(d:b<x.s.l.length)(g:m=cx.all (iD x.s.l f b a))(h:ag i k e w)
 (j:aP e [a.aQ,x.s.cw,x.aq,aZ<|cP x.r,own 39 2 x.s.val x.s.l.length m,x.bu.aD] B):ag i k (b9<|tj x<|iD x.s.l f b a) w:=by
 have n:=h.aF j
 have o:=n.Cf (k:=f) (c:=(x.s.l[f]'c).aQ) (by simp[c])
 have p:=o.G6 (l':=(iD x.s.l f b a).map b_.aQ) (by
  rw[<-p6];exact List.Perm.map _<|PJ c d)
 have q:=Ct (r:=a) c d
 have t:b9 (tj x<|iD x.s.l f b a)=[x.aq,aZ<|cP x.r,own 39 2 x.s.val x.s.l.length m,aZ<|(iD x.s.l f b a).map b_.aQ,x.bu.aD]:=by
  subst g;simp only[b9,tj,bQ.aq,qv,dz.val,dz.aD,dz.cw,q]
 rw[t];exact p.aF ah
def PM(n:bc a (b9 o))(x:dF o.abs)(d b:Nat)(p:d<o.s.l.length)(q:b<o.s.l.length)(aq aR:Int):
 ay 473 [ptr o.g,ad (d:Int),ad (b:Int),.agg [ad aq,ad aR].toArray] a
  (aX (λ_:b_=> .tuple #[]) (b9 o) (λe=>b9<|tj o<|iD o.s.l d b e) (λe=>e.fI=(List.replicate (mX o.al)<|hr aq aR,false)) a):=by
 have y:=x.rows
 simp only[bQ.abs,b2,c8] at y
 obtain⟨e,h⟩:=ti (r:=o.s) (n.all _ au) aa;have m:o.s.val= .slice (some ⟨e,0,none⟩) o.s.l.length o.s.c:=by rw[dz.val,h]
 have D:o.s.l.length<=o.s.c:=(Cu<|n.all o.s.aD au).cap
 refine bX func473 ntmps473 n ?_;refine ap ?_;intro E F G;refine (aE) (λz=>?_) λz=>?_;refine bN [0,1,2,3,4,5,6,7,8,9,10,11,12,13,14,15] 1 [[(16,true,[])]] ?_;refine aH ?_;refine aO rfl (λi j=>(gp d b dy rfl rfl (.inl ⟨_,_,rfl,rfl,aa⟩) (.inl ⟨_,_,rfl,rfl,aa⟩) aa aa aJ)) ?_;refine aY ?_;refine aO rfl (λi j=>(gp (d+1) (b+1) dy rfl rfl (.inl ⟨_,_,rfl,rfl,aa⟩) (.inl ⟨_,_,rfl,rfl,aa⟩) aa aa aJ)) ?_;refine aA ?_;refine Hl (E:=cx) (L:=o.s.l) (src:=(o.s.l.take<|b+1).drop<|d+1) (g:=e) (F:=λ_=>True) m d (b - d) aa dy rfl rfl rfl (λA=>by rw[ai aa,h];simp[Addr.add_lit];rfl) aa oH (λB r=>(Cu (r:=o.s)<|r.has hL).cut aa aa) ?_;refine a7 ?_;refine bN [0,1,2,3,4,5,6] 2 [[(7,false,[8]),(9,true,[])]] ?_;refine a6 ?_;refine hf (λt u=>Co t o (u.has cz) aq aR) λf v=>cv (λ_=>True) (λ_ k=> .inr<|k.rem bH.head) (λ_ k=>bh) ?_;refine aO rfl (λi j=>(bE (q:=b) dy rfl rfl rfl h aa aa aJ))<|aA ?_;refine zp m (o:=b*2) gG rfl rfl j5 (by rw[Addr.add_lit,ev]) rfl (cx.kz f) (by rw[cx.eD];simp only[b3,dR,fL];show b*2+2<=_*2;omega) ?_;refine a7 ?_;exact λC w=>aX.cf (i:=f) v rfl<|Hm p q ((b1.kC cx f<|by simp only[b3,dR,fL];omega).trans<|a_ cx.all<|PK aa q) w ah
 refine bN [0,1,2,3,4,5,6,7,8,9,10,11,12,13,14,15] 1 [[(16,true,[])]] ?_;refine aY ?_;refine aO rfl (λi j=>(gp (b+1) (d+1) dy rfl rfl (.inl ⟨_,_,rfl,rfl,aa⟩) (.inl ⟨_,_,rfl,rfl,aa⟩) aa aa aJ)) ?_;refine aH ?_;refine aO rfl (λi j=>(gp b d dy rfl rfl (.inl ⟨_,_,rfl,rfl,aa⟩) (.inl ⟨_,_,rfl,rfl,aa⟩) aa aa aJ)) ?_;refine aA ?_;refine Hl (E:=cx) (L:=o.s.l) (src:=(o.s.l.take d).drop b) (g:=e) (F:=λ_=>True) m (b+1) (d - b) aa dy rfl rfl rfl (λA=>by rw[ai aa,h];simp[Addr.add_lit];rfl) aa oH (λB r=>(Cu (r:=o.s)<|r.has hL).cut aa aa) ?_;refine a7 ?_;refine bN [0,1,2,3,4,5,6] 2 [[(7,false,[8]),(9,true,[])]] ?_;refine a6 ?_;refine hf (λt u=>Co t o (u.has cz) aq aR) λf v=>cv (λ_=>True) (λ_ k=> .inr<|k.rem bH.head) (λ_ k=>bh) ?_;refine aO rfl (λi j=>(bE (q:=b) dy rfl rfl rfl h aa aa aJ))<|aA ?_;refine zp m (o:=b*2) gG rfl rfl j5 (by rw[Addr.add_lit,ev]) rfl (cx.kz f) (by rw[cx.eD];simp only[b3,dR,fL];show b*2+2<=_*2;omega) ?_;refine a7 ?_;exact λC w=>aX.cf (i:=f) v rfl<|Hm p q ((b1.kC cx f<|by simp only[b3,dR,fL];omega).trans<|a_ cx.all<|PL aa p) w ah
def ha :Int:=p.jK.length
def oN(a b:Int):b8:={ p with cY:=iD p.cY c A (rO p.al a b) }
def tk(a b:Int):b8:=iS (iS (oN (gD (gD p 1 (ha p+c) 1) 0 (ha p+A) 1) c A a b) c false) (A+1) false
def pv(a b:Int):b8:=iS (iS (oN (gD (gD p 1 (ha p+A) 1) 0 (ha p+c) 1) A c a b) (c+1) false) (A+1) false
def nO :b8:={ p with jK:=pu p.jK p.room (p.cY.headD ([],false)) }
def mY(b d:Int):b8:=
 if 0<c then tk p c A b d else
 let a:=gD p 0 (ha p+A+1) 1
 let a:=if ha p=p.room then gD (nO a) 2 0 1 else nO a
 iS (oN a 0 A b d) (A+1) false
def rS :b8:=if p.jK.length=0 then p else iS (gD { p with jK:=[] } 2 0 p.jK.length) 0 false
def tl(a:dx x.r):x.r.n=ha x.abs:=by
 have:=a.n
 simp only[ha,bQ.abs,lE];omega
def rT(a:dF y)(b c d:Int):dF (gD y b c d):=⟨a.al,a.rows,a.wide,a.oM,a.room⟩
def mem_modify{f:g->g}: ∀{c:List g} {d:Nat} {b:g},b∈c.modify d f->b∈c\/ ∃e∈c,b=f e
 | [],d,b,h=>by simp at h
 | a::c,0,b,h=>by
  rw[List.modify_zero_cons] at h
  rcases eJ.1 h with rfl | h
  exact .inr ⟨a,by simp,rfl⟩;exact .inl (by simp[h])
 | a::c,d+1,b,h=>by
  rw[List.modify_succ_cons] at h
  rcases eJ.1 h with rfl | h
  exact .inl au;rcases mem_modify h with h | ⟨e,i,rfl⟩
  exact .inl (by simp[h]);exact .inr ⟨e,by simp[i],rfl⟩
def Cv(a:dF y)(c:Int)(d:Bool):dF (iS y c d):=by
 unfold iS l7;split
 refine⟨a.al,by simpa using a.rows,λe b=>?_,a.oM,a.room⟩;rcases mem_modify b with b | ⟨f,g,rfl⟩
 exact a.wide e b;exact a.wide f g;exact a
def Hn{b:List g}{r a:g}(h:a∈iD b f s r):a∈b\/a=r:=by
 unfold iD at h
 split at h <;> simp only[dq,e0] at h
 rcases h with ((h | h) | h) | h
 exact .inl<|hz h;exact .inl<|kv<|hz h;exact .inr h;exact .inl<|kv h;rcases h with ((h | h) | h) | h
 exact .inl<|hz h;exact .inr h;exact .inl<|kv<|hz h;exact .inl<|kv h
def zq(a:dF y)(c:f<y.cY.length)(d:s<y.cY.length)(e g:Int):dF (oN y f s e g):=by
 refine⟨a.al,?_,λh b=>?_,a.oM,a.room⟩;have:=a.rows
 simp only[oN,Ct c d];exact this
 rcases Hn b with b | rfl
 exact a.wide h b;have:=a.al
 refine⟨by simp only[rO,oN,hy];omega,λj i=>?_⟩;rw[k6 i];exact b4 _
def PN(d:dF x.abs){a:Nat}{b v:Int}(c:w.fI=(List.replicate (mX x.al)<|hr b v,false)): (tj x<|iD x.s.l f a w).abs=oN x.abs f a b v:=by
 have e:mX x.al=x.al.toNat:=by
  have:=d.al
  simp only[bQ.abs] at this
  unfold mX;omega
 rw[e] at c
 simp only[bQ.abs,tj,oN,b2,PI,c,rO]
structure PO (g:Nat) (q:b8) (i:bQ):Prop where
 g:i.g=g
 r:dx i.r
 abs:i.abs=q
def Cw(e:bc a (b9 o))(f:dx o.r)(d:dF o.abs)(b c:Nat)(h:b<o.s.l.length)(i:c<o.s.l.length)(aq aR:Int):
 ay 473 [ptr o.g,ad (b:Int),ad (c:Int),.agg [ad aq,ad aR].toArray] a (jj o (oN o.abs b c aq aR) a):=
 (PM a o e d b c h i aq aR).mono λn p j=>aX.mono j λk m=>⟨tj o<|iD o.s.l b c k,⟨rfl,f,PN d m⟩,rfl,rfl⟩
def Ho(E:bc a (b9 o))(p:dx o.r)(q:dF o.abs)(V:o.bu.l.length<=1540000000000)(f h:Nat)(W:f<o.s.l.length)(X:h<o.s.l.length)(aq aR:Int):
 ay 433 [ptr o.g,ad (f:Int),ad (h:Int),.agg [ad aq,ad aR].toArray] a (jj o (tk o.abs f h aq aR) a):=by
 have F:=q.rows
 have t:=tl p
 have Y:=q.room
 have Z:=p.n
 have Za: (o.abs.jK.length:Int)=o.r.n:=by rw[t];rfl
 simp only[bQ.abs,b2,c8] at F
 refine bX func433 ntmps433 E ?_;refine ap ?_;intro Zb Zc Zd;refine aH ?_;refine bd (λc d=>by have b:=oL c o (d.has cz)<|(d.has cW: (aZ<|cP o.r).pred c) o.r.aq au;exact b) ?_;refine aA ?_;refine bK (l0:=b9 o) ah (λc d=>by have b:=rQ c o (d.cb ah) p aa 1 (o.r.n+f) 1;exact b) λe G=>?_;obtain⟨i,y,j⟩:=G;have H:e.r.n=o.r.n:=by rw[tl y,j,t];rfl
 have Ze:e.bu.l.length=o.bu.l.length+1:=by have:=a_ (λu=>u.g_.length) j;simpa [bQ.abs,gD] using this
 refine aH ?_;refine bd (λc d=>by have b:=oL c e (d.has bw)<|(d.has cz: (aZ<|cP e.r).pred c) e.r.aq au;rw[i] at b;exact b) ?_;refine aA ?_;refine bK (l0:=b9 e) ah (λc d=>by have b:=rQ c e (d.cb ah) y aa 0 (e.r.n+h) 1;rw[i] at b;exact b) λk I=>?_;obtain⟨m,J,ey⟩:=I;have Zf:k.s.l.length=o.s.l.length:=by have:=a_ (λu=>u.cY.length)<|ey.trans<|a_ (gD · 0 _ 1) j;simpa [bQ.abs,gD] using this
 have z:dF k.abs:=by rw[ey,j];exact rT (rT q _ _ _) _ _ _
 refine aY ?_;refine bK (l0:=b9 k) ah (λc d=>by have b:=Cw c k (d.cb ah) J z f h aa aa aq aR;rw[m.trans i] at b;exact b) λv K=>?_;obtain⟨w,L,A⟩:=K;have B:dF v.abs:=by rw[A];exact zq z (by simp[bQ.abs];omega) (by simp[bQ.abs];omega) _ _
 refine aH ?_;refine bK (l0:=b9 v) ah (λc d=>by have b:=rP c v (d.cb ah) L B (f:Int);rw[w.trans (m.trans i)] at b;exact b) λx M=>?_;obtain⟨C,N,D⟩:=M;have O:dF x.abs:=by rw[D];exact Cv B _ _
 refine aH ?_;refine bK (l0:=b9 x) ah (λc d=>by have b:=rP c x (d.cb ah) N O<|(h:Int)+1;rw[C.trans (w.trans<|m.trans i)] at b;exact b) λP Q=>?_;refine aA ?_;intro Zg R;obtain⟨S,T,U⟩:=Q;exact eV P ⟨S.trans<|C.trans<|w.trans<|m.trans i,T,by rw[U,D,A,ey,j,H,t];rfl⟩ R
def PP(E:bc a (b9 o))(p:dx o.r)(q:dF o.abs)(U:o.bu.l.length<=1540000000000)(f h:Nat)(V:f<o.s.l.length)(W:h<o.s.l.length)(aq aR:Int):
 ay 427 [ptr o.g,ad (f:Int),ad (h:Int),.agg [ad aq,ad aR].toArray] a (jj o (pv o.abs f h aq aR) a):=by
 have F:=q.rows
 have t:=tl p
 have X:=q.room
 have Y:=p.n
 have Z: (o.abs.jK.length:Int)=o.r.n:=by rw[t];rfl
 simp only[bQ.abs,b2,c8] at F
 refine bX func427 ntmps427 E ?_;refine ap ?_;intro Za Zb Zc;refine aH ?_;refine bd (λc d=>by have b:=oL c o (d.has cz)<|(d.has cW: (aZ<|cP o.r).pred c) o.r.aq au;exact b) ?_;refine aA ?_;refine bK (l0:=b9 o) ah (λc d=>by have b:=rQ c o (d.cb ah) p aa 1 (o.r.n+h) 1;exact b) λe G=>?_;obtain⟨i,y,j⟩:=G;have H:e.r.n=o.r.n:=by rw[tl y,j,t];rfl
 have Zd:e.bu.l.length=o.bu.l.length+1:=by have:=a_ (λu=>u.g_.length) j;simpa [bQ.abs,gD] using this
 refine aH ?_;refine bd (λc d=>by have b:=oL c e (d.has bw)<|(d.has cz: (aZ<|cP e.r).pred c) e.r.aq au;rw[i] at b;exact b) ?_;refine aA ?_;refine bK (l0:=b9 e) ah (λc d=>by have b:=rQ c e (d.cb ah) y aa 0 (e.r.n+f) 1;rw[i] at b;exact b) λk I=>?_;obtain⟨m,J,ey⟩:=I;have Ze:k.s.l.length=o.s.l.length:=by have:=a_ (λu=>u.cY.length)<|ey.trans<|a_ (gD · 0 _ 1) j;simpa [bQ.abs,gD] using this
 have z:dF k.abs:=by rw[ey,j];exact rT (rT q _ _ _) _ _ _
 refine aY ?_;refine bK (l0:=b9 k) ah (λc d=>by have b:=Cw c k (d.cb ah) J z h f aa aa aq aR;rw[m.trans i] at b;exact b) λv K=>?_;obtain⟨w,L,A⟩:=K;have B:dF v.abs:=by rw[A];exact zq z (by simp[bQ.abs];omega) (by simp[bQ.abs];omega) _ _
 refine aU ?_;refine bK (l0:=b9 v) ah (λc d=>by have b:=rP c v (d.cb ah) L B<|(f:Int)+1;rw[w.trans (m.trans i)] at b;exact b) λx M=>?_;obtain⟨C,N,D⟩:=M;have O:dF x.abs:=by rw[D];exact Cv B _ _
 refine aH ?_;refine bK (l0:=b9 x) ah (λc d=>by have b:=rP c x (d.cb ah) N O<|(h:Int)+1;rw[C.trans (w.trans<|m.trans i)] at b;exact b) λi32 P=>?_;refine aA ?_;intro Zf Q;obtain⟨R,S,T⟩:=P;exact eV i32 ⟨R.trans<|C.trans<|w.trans<|m.trans i,S,by rw[T,D,A,ey,j,H,t];rfl⟩ Q
