/- part 11 of the proof -/
import Derived.Test.YtnfmgboendlmaaaGreatDoorQ10
set_option linter.all false
namespace Go.Proofs.YtnfmgboendlmaaaGreatDoor.Mq
open RowKit Tryz
variable {P:Program}{n d:Nat}{ops:Array Oper}{Q:cN}{rest:List Oper}{l:Fr}{ty:TypeId}{pos:String}{bf:Array Edge}{b:World}{S:List Nat}{cs:List Chunk}
variable {F:Array TypeId}{G:FuncId}{p:List Chunk}{J:List Nat}{E:List Operand}{j:List Value}{g:List aL}{A C i y:Nat}{x:Operand}{D:Option Addr}{z:Type}{t:Value}{q:World}(B:aL)(I:List aL->List aL)(c:World)(a:List aL)(r:Nat->Prop)(s:Value)(v:Int × Int)(H:List UInt8)(f:Nat)(e:Int)(m:Option Addr)(o:Nat)(h:List (Int × Int))(k:Int)(u:Nat)(w:dH)
def ps:b1 (Int × Int):=⟨λa=>[.int .i32 a.1,.int .i32 a.2],2,λ_=>rfl,λ_=>aV.cons rfl<|aV.cons rfl aV.nil⟩
def w1:List (Int × Int):=[(768,879),(1155,1161),(1425,1469),(1552,1562),(1611,1631),(2304,2306),(2364,2364),(2369,2376),(3633,3633),(3636,3642),(6832,6911),(7616,7679),(8203,8207),(8400,8447),(8288,8292),(65024,65039),(65056,65071),(65279,65279),(917760,917999)]
def w2:List (Int × Int):=[(4352,4447),(8986,8987),(9001,9002),(9193,9196),(9725,9726),(9748,9749),(11904,12350),(12353,13311),(13312,19903),(19968,40959),(40960,42191),(43360,43391),(44032,55203),(63744,64255),(65072,65135),(65280,65376),(65504,65510),(127744,128591),(128640,128767),(129280,129535),(131072,196605),(196608,262141)]
def w3(a:Int × Int):Bool:=decide (a.1<=e) && decide (e<=a.2)
def nN(a:Int):Bool:=h.any<|w3 a
def zg :Bool:=decide (e<32) || (decide (127<=e) && decide (e<160)) || (decide (55296<=e) && decide (e<57344)) || decide (1114111<e)
def cO :Int:=if zg e=true then -1 else if e<768 then 1 else if nN w1 e=true then 0 else if nN w2 e=true then 2 else 1
def w4 :cO e= -1\/cO e=0\/cO e=1\/cO e=2:=by
 unfold cO;repeat' split
 all_goals simp
def zh(c:World)(d:Value)(e:World):Prop:= ∃a b,d= .slice a h.length b/\Rd ps e (λf=>c.heap.size<=f) a h.length b h
def O2 :ay 323 [] c (pi (zh w1 c) c):=by
 refine ba func323 ntmps323 ?_;refine wP ?_;intro e f g;refine aI ?_;intro h a;have b:=Rd.iR (E:=ps) (L:=w1) a Has.head rfl aW
 exact⟨_,rfl,a.ext,_,_,rfl,b.d8 λi d=>by rw[d];assumption⟩
def O3 :ay 324 [] c (pi (zh w2 c) c):=by
 refine ba func324 ntmps324 ?_;refine wQ ?_;intro e f g;refine aI ?_;intro h a;have b:=Rd.iR (E:=ps) (L:=w2) a Has.head rfl aW
 exact⟨_,rfl,a.ext,_,_,rfl,b.d8 λi d=>by rw[d];assumption⟩
def Ch :ay 321 [.int .i32 e] c (Pure (.bool<|zg e) c):=by
 refine ba func321 ntmps321 ?_;refine be ?_;focus (refine bl 5 rfl (λd=>?_) λd=>?_;have j:=bg d;refine lB ?_;rotate_left;have j:=bm d;refine aH ?_;refine bl 8 rfl (λf=>?_) λf=>?_;(focus have k:=bg f;refine aY ?_;refine bl 13 rfl (λa=>?_) λa=>?_;have g:=bg a;refine fa ?_;rotate_left;have g:=bm a;refine aH ?_;refine bl 16 rfl (λb=>?_) λb=>?_;(focus have h:=bg b;refine aY ?_;refine bl 21 rfl (λi=>?_) λi=>?_;have l:=bg i;refine aY ?_;rotate_left;have l:=bm i;refine be ?_);rotate_left 2;have h:=bm b;refine fa ?_);rotate_left 4;have k:=bm f;refine b6 ?_;refine bl 16 rfl (λa=>?_) λa=>?_;(focus have g:=bg a;refine aY ?_;refine bl 21 rfl (λb=>?_) λb=>?_;have h:=bg b;refine aY ?_;rotate_left;have h:=bm b;refine be ?_);rotate_left 2;have g:=bm a;refine fa ?_;all_goals (intro n m;exact⟨by simp only[zg,Ending.returned.injEq,Value.bool.injEq];(simp;omega),m.ext⟩))
def O4(d: (aG f [.int .i32 e] 21).pred c):Calls prog 405 ([]++[Value.agg (ps.enc v).toArray]++[ptr f]).toArray c (Pure (.bool<|w3 e v) c):=by
 refine ba func405 ntmps405 ?_;refine ap ?_;intro j k l;refine aI ?_;refine d9 (q:=0) underlying427 Gl rfl rfl rfl bo aa<|av ?_;refine bb h_ rfl rfl (λg a=>a.cc d au rfl)<|aA ?_;focus (refine bl 8 rfl (λb=>?_) λb=>?_;have h:=bg b;refine av ?_;refine bb h_ rfl rfl (λg a=>a.cc d au rfl)<|av ?_;refine d9 (q:=1) underlying427 Gl rfl rfl rfl bo aa ?_;rotate_left;have h:=bm b;all_goals (refine be ?_;intro m i;exact⟨by simp only[w3,Ending.returned.injEq,Value.bool.injEq];(simp;omega),i.ext⟩))
def O5(d i:Nat)(L:List (Int × Int))(l:Rd ps c r m d i L)(D:d<=100)(e:Nat)(b:Int)(q: (aG e [.int .i32 b] 21).pred c):
 ay 465 [.slice m d i,.func (.func 405) [].toArray [ptr e].toArray] c (pi (λs _=> ∃n:Int,s=ad n/\decide (0<=n)=nN L b) c):=by
 have E:=l.len
 refine ba func465 ntmps465 ?_;refine cZ ?_;refine cd (ι:=Nat) (λa=>[(0,.slice m d i),(1,.func (.func 405) [].toArray [ptr e].toArray),(7,ad (d:Int)),(8,ad (a:Int))]) (λ_=>ag c [] []) (λa=>a<=d/\nN (L.take a) b=false) (λa=>d - a) ?_ ?_;exact λo f=>⟨0,⟨b4 _,by simp[nN]⟩,(da rfl rfl rfl rfl),f⟩
 rintro a ⟨F,h⟩;refine (aE) (λt=>?_) λt=>b6 ?_;obtain⟨p,j⟩ : ∃p,L[a]? = some p:=⟨L[a]'aa,bD _⟩;obtain⟨G,H,_,u⟩:=l.at_ j;have v:nN (L.take<|a+1) b=w3 b p:=by
  rw[hA,j,nN,List.any_append];rw[nN] at h
  rw[h];simp
 refine dO ?_;refine bE (q:=a) N9 rfl rfl rfl bR aa aa<|cE N_ rfl rfl (rfl) (λo f w x y=>f.ch (u w x y) au)<|ix (first:=[]) (cap:=[ptr e]) rfl rfl cL rfl (λz A=>O4 z p e b<|A.ew q au)<|aA ?_;refine cD rfl (λg=>cn ?_) λg=>aU ?_;intro B k;refine⟨_,rfl,k.ext,_,rfl,?_⟩;have C:nN L b=true:=List.any_eq_true.2 ⟨p,cR j,g⟩
 rw[C];simp
 have g:w3 b p=false:=by simpa using g
 exact bv (a+1) ⟨aa,by rw[v];exact g⟩ aa b5 λo f=>f;intro B k;refine⟨_,rfl,k.ext,_,rfl,?_⟩;have:L.take a=L:=eT aa
 rw[this] at h
 rw[h];rfl
def O6(a e:Nat)(b:List (Int × Int))(j:Rd ps c r m a e b)(k:a<=100)(f:Nat)(d:Int)(l: (aG f [.int .i32 d] 21).pred c):
 ay 404 [.slice m a e,.func (.func 405) [].toArray [ptr f].toArray] c (Pure (.bool<|nN b d) c):=by
 refine ba func404 ntmps404 ?_;refine a6 ?_;refine oF (R:=λ_ h _=> ∃g:Int,h=ad g/\decide (0<=g)=nN b d) (λn i=>O5 n r m a e b (j.ext i.ext au) k f d<|i.ew l au) λu v h o p w x q=>?_;obtain⟨g,rfl,s⟩:=q;refine aH ?_;exact λy t=>⟨by rw[<-s],o.ext.eC<|p.eC t.ext⟩
def G8(a b:Nat)(d:List (Int × Int))(g:Rd ps c r m a b d)(h:a<=100)(e:Int):
 ay 322 [.slice m a b,.int .i32 e] c (Pure (.bool<|nN d e) c):=by
 refine ba func322 ntmps322 ?_;refine ap ?_;intro k l n;refine aU ?_;refine bd (hargs:=rfl) (λi f=>O6 i r m a b d (g.ext f.ext au) h _ e<|f.has Has.head)<|aI ?_;exact λo j=>⟨rfl,j.ext⟩
def w5 :ay 234 [.int .i32 e] c (Pure (ad<|cO e) c):=by
 refine ba func234 ntmps234 ?_;refine be ?_;refine bF (Ch · _) ?_;refine ap ?_;refine cD rfl (λd=>a6 ?_) λd=>?_;exact λg a=>⟨by rw[cO,aB d],a.ext⟩
 refine (aE) (λf=>a6 ?_) λf=>aA ?_;exact λg a=>⟨by rw[cO,ai<|by simp[d],aB f],a.ext⟩
 refine oF (R:=λi=>zh w1 i) (λb _=>O2 b) λB o p q r C D j=>?_;obtain⟨s,t,rfl,u⟩:=j;have m:Ext [] c o:=q.ext.eC r
 refine av ?_;refine bd (hargs:=rfl) (λb k=>G8 b _ s _ t w1 (u.ext k.ext<|by simp[aK]) aW e)<|ap ?_;refine cD rfl (λh=>a6 ?_) λh=>aA ?_;exact λg a=>⟨by rw[cO,ai<|by simp[d],ai f,aB h],m.eC a.ext⟩
 refine oF (R:=λi=>zh w2 i) (λb _=>O3 b) λE v p w x F G j=>?_;obtain⟨y,z,rfl,A⟩:=j;have n:Ext [] c v:=(m.eC w.ext).eC x
 refine av ?_;refine bd (hargs:=rfl) (λb k=>G8 b _ y _ z w2 (A.ext k.ext<|by simp[aK]) aW e)<|ap ?_;refine cD rfl (λl=>a6 ?_) λl=>be ?_;exact λg a=>⟨by rw[cO,ai<|by simp[d],ai f,ai<|by simp[h],aB l],n.eC a.ext⟩
 exact λg a=>⟨by rw[cO,ai<|by simp[d],ai f,ai<|by simp[h],ai<|by simp[l]],n.eC a.ext⟩
def b1.G9(a:b1 z){L V:List z}{p:Nat}(c:p+V.length<=L.length):dJ (a.all L) (p*a.ax) (a.all V)=a.all (L.take p++V++L.drop (p+V.length)):=by
 have f: (p+V.length)*a.ax<=L.length*a.ax:=mB _ c
 rw[Mq.kC _ (by rw[a.eD,a.eD,<-kw];exact f),a.all_append,a.all_append,a.eD];have d: ∀b,b<=L.length->(a.all L).take (b*a.ax)=a.all (L.take b)/\(a.all L).drop (b*a.ax)=a.all (L.drop b):=by
  intro b g;have e:a.all L=a.all (L.take b)++a.all (L.drop b):=by rw[<-a.all_append,iJ]
  have h: (a.all<|L.take b).length=b*a.ax:=by rw[a.eD,dR,jZ g]
  constructor
  conv=>lhs;rw[e]
  rw[List.take_append_of_le_length aa,eT aa];conv=>lhs;rw[e]
  rw[List.drop_append_of_le_length aa,p5 aa,mA]
 rw[(d p aa).1,<-kw,(d (p+V.length) c).2]
def zi{E:b1 z}{h:Operand}{g J t Ze:Nat}{L:List z}{k:Option Addr}{e u:Nat}{src:List z}{F:Nat->Prop}(r:Nat)(Zf:r=min e t)(m:dD P i y E.ax A j)(Zg:Nat.blt d n=true)
 (K:bi l x=some (.slice D t Ze)) (M:bi l h=some (.slice k e u)) (Zh:0<r->D=some ⟨g,f*E.ax,none⟩) (N:f+r<=L.length)
 (c:bC cs (own y E.ax (.slice (some ⟨g,0,none⟩) C J) C<|E.all L) (own y E.ax (.slice (some ⟨g,0,none⟩) C J) C<|E.all<|L.take f++src.take r++L.drop (f+r)) p)
 (Zi: ∀w,ag b S cs w->Rd E w F k e u src)
 (O:aM P n ops Q rest ((d,ad (r:Int))::l) (ag b S p)):
 aM P n ops Q (⟨some d,.call ⟨.builtin .copy,#[x,h],#[i,i]⟩,ty,pos,bf,none⟩::rest) l (ag b S cs):=by
 obtain⟨Zu,Zv,R,Zw,Zx,T,Zy⟩:=m.inf;refine iv Zg λZz w o v=>?_
 have U:=v.has c.has
 have B:=Zi w v
 have G: (src.take r).length=r:=by rw[dR,B.len];omega
 have q: (E.all<|src.take r).length=r*E.ax:=by rw[E.eD,G]
 have ZA:L.length*E.ax=C*E.ax:=by
  have:=U.1
  rwa [E.eD] at this
 have Zj: (f+r)*E.ax<=L.length*E.ax:=mB _ N
 have ZB:=U.1
 have Zk:dJ (E.all L) (f*E.ax) (E.all<|src.take r)=E.all (L.take f++src.take r++L.drop (f+r)):=by
  rw[b1.G9 E (V:=src.take r) (by rw[G];exact N),G]
 rw[<-Zk] at c
 obtain⟨H,s,V⟩:=v.ux (P:=P) (xs:=E.all L) (o:=f*E.ax) (vs:=E.all<|src.take r) (by rw[q,E.eD,<-kw];exact Zj) (E.yF _) c;have W: (Builtin.firstCells E.ax r<|.slice k e u).run P w= .ok (E.all<|src.take r).toArray w:=by
  rcases hV r with ar | ar
  subst ar;cases k <;> simp[Builtin.firstCells,b1.all,loadCells,loadCellsFrom]
  obtain⟨Zl,rfl,_,Zm⟩:=B.cells aa;have:=run_loadCellsFrom (P:=P) (w:=w) (p:=Zl) (E.all<|src.take r) 0 #[] (λa ZC c=>by
   have Zn:a<r*E.ax:=by
    have:=(cH.1 c).1
    rwa [q] at this
   have X:0<E.ax:=m.pos
   have Zo:a/E.ax<r:=(Nat.div_lt_iff_lt_mul X).2 Zn
   have Zp:=jA a X
   have Zq:=Nat.div_add_mod a E.ax
   obtain⟨a0,Y⟩ : ∃a0,src[a/E.ax]? = some a0:=⟨src[a/E.ax]'(by have:=B.len;omega),bD _⟩;have Zr: (src.take r)[a/E.ax]? = some a0:=by rw[iu,aB Zo];exact Y
   obtain⟨Z,Za⟩ : ∃Z,(E.enc a0)[a%E.ax]? = some Z:=⟨(E.enc a0)[a%E.ax]'(by rw[E.len];exact Zp),bD _⟩;have I:=E.nE Zr Za
   have Zb:a/E.ax*E.ax+a%E.ax=a:=by rw[rn];exact Zq
   rw[Zb,c] at I
   simp only[ek] at I
   subst I;have:=Zm _ _ _ _ Y Za
   rw[add_add,Zb] at this
   rw[ev];exact this)
  rw[q] at this
  simpa [Builtin.firstCells,loadCells] using this
 have Zc:Nat.min e t=r:=Zf.symm
 rcases hV r with ar | ar
 have Zd: (E.all<|src.take r)=[]:=jX (by rw[q,ar,sM])
 rw[Zd] at s
 have Zs:H=w:=by
  simp[storeCells] at s
  exact s.symm
 subst Zs;refine⟨ad (r:Int),H,?_,O.at V⟩;cases D <;> simp[execOp,resolve,invoke,builtin,o x _ K,o h _ M,Builtin.copy_,run_underlying m.gf,Builtin.lenOf,run_sizeOf R,T,Zc,W,goInt,Zd,storeCells]
 have Zt:=Zh ar
 subst Zt;refine⟨ad (r:Int),H,?_,O.at V⟩;simp[execOp,resolve,invoke,builtin,o x _ K,o h _ M,Builtin.copy_,run_underlying m.gf,Builtin.lenOf,run_sizeOf R,T,Zc,W,goInt,s]
def O7{first cap:List Value}{v:Value}{c c':Chunk}(hd:Nat.blt d n=true)(i:bi l x=some (.func (.func G) first.toArray cap.toArray))(hcb:dX P G)(hargs:db l E=some j)(k:bC cs c c' p)(f:c'.cT=c.cT)(m:c.cT.Nodup)
 (o: ∀a,ag b S cs a->Calls P G (first++j++cap).toArray a λg e=>g= .returned v/\Ext c.cT a e/\c'.pred e)
 (q:aM P n ops Q rest ((d,v)::l) (ag b S p)):
 aM P n ops Q (⟨some d,.call ⟨.value x,E.toArray,F⟩,ty,pos,bf,none⟩::rest) l (ag b S cs):=by
 refine iw i (hd:=hd) (hcb:=hcb) (hargs:=hargs) λa h=>?_
 have:=o a h
 simp only[List.append_toArray];refine this.mono ?_;rintro g e ⟨rfl,r,s⟩;exact⟨v,rfl,q.at<|h.iM k r s (λu t=> .inl<|f▸t)<|f▸m⟩
def hr :aL:=⟨0,[],0,⟨0,0,e,k,0⟩⟩
def gZ :List aL:=
 if e<0\/cO k<1\/(a.length:Int) - cO k<e then a else
 if cO k=2 then (a.set (e.toNat+1) ⟨k,[],2,w⟩).set e.toNat ⟨k,[],1,w⟩ else a.set e.toNat ⟨k,[],0,w⟩
def uT :aL:={ B with more:=H }
def mW :List aL:=if 0<a.length then a.set (a.length - 1) rM else a
def f_(aq aR:Int):List aL:=a.take f++List.replicate o (hr aq aR)++a.drop (f+o)
def hE(aq aR:Int):List aL:=
 if max 0 e<min k (a.length:Int) then f_ a (max 0 e).toNat ((min k (a.length:Int)).toNat - (max 0 e).toNat) aq aR else a
def l6 :List aL:=a.take o++(a.drop f).take u++a.drop (o+u)
def insertC(aq aR:Int):List aL:=
 if e<0\/(a.length:Int)<=e\/k<1 then a else
 f_ (l6 a e.toNat (e+min k (a.length - e)).toNat ((a.length:Int) - e - min k (a.length - e)).toNat) e.toNat (min k<|a.length - e).toNat aq aR
def kL(aq aR:Int):List aL:=
 if e<0\/(a.length:Int)<=e\/k<1 then a else
 f_ (l6 a (e+min k (a.length - e)).toNat e.toNat ((a.length:Int) - e - min k (a.length - e)).toNat) ((a.length:Int) - min k (a.length - e)).toNat (min k<|a.length - e).toNat aq aR
def cX :List aL:=b7<|I<|b7 a
def tf : (gZ a e k w).length=a.length:=by
 unfold gZ;repeat' split
 all_goals simp
def zj : (mW a).length=a.length:=by
 unfold mW;split <;> simp
def w6{aq aR:Int}(a:i+y<=g.length): (f_ g i y aq aR).length=g.length:=by
 unfold f_;simp only[b3,dR,hy,fL];omega
def uU(a:i+A<=g.length)(b:y+A<=g.length): (l6 g i y A).length=g.length:=by
 unfold l6;simp only[b3,dR,fL];omega
def zk(aq aR:Int): (hE a e k aq aR).length=a.length:=by
 unfold hE;split
 exact w6 aa;rfl
def uV(aq aR:Int): (insertC a e k aq aR).length=a.length:=by
 unfold insertC;split
 rfl
 have b: (l6 a e.toNat (e+min k (a.length - e)).toNat ((a.length:Int) - e - min k (a.length - e)).toNat).length=a.length:=uU aa aa
 rw[w6 (by rw[b];omega),b]
def uW(aq aR:Int): (kL a e k aq aR).length=a.length:=by
 unfold kL;split
 rfl
 have b: (l6 a (e+min k (a.length - e)).toNat e.toNat ((a.length:Int) - e - min k (a.length - e)).toNat).length=a.length:=uU aa aa
 rw[w6 (by rw[b];omega),b]
def Ci{f:List aL->List aL}(b: ∀a,(f a).length=a.length)(a:List aL): (cX f a).length=a.length:=by
 unfold cX;rw[hq,b,hq]
def d_(b:List aL)(c:World):Ending->World->Prop:=λd a=>d= .returned (.tuple #[])/\Ext s.ownBlock.toList c a/\(ep s b).pred a
def Cj{w:World}(a: (own 81 8 t i j).pred w)(b:j=bW.all g)(c:g.length=i): (ep t g).pred w:=by
 subst b c;exact a
def uX(a:i<g.length):dJ (bW.all g) (i*8) B.enc=bW.all (g.set i B):=by
 have:=b1.G9 bW (L:=g) (V:=[B]) (p:=i) (by simp;omega)
 rw[sH,aB a];have b:bW.all [B]=B.enc:=by simp[b1.all,bW]
 rw[b] at this
 exact this.trans au
def d_.of{a:World}(c:J=t.ownBlock.toList)(b:ag q J p a)(d:Has p (own 81 8 t i j))(e:j=bW.all g)(f:g.length=i):d_ t g q (.returned<|.tuple #[]) a:=by
 subst c;exact⟨rfl,b.ext,Cj (b.has d) e f⟩
def G_(aq aR:Int):ay 412 [.agg #[ad aq,ad aR]] c (Pure (.agg (hr aq aR).enc.toArray) c):=by
 refine ba func412 ntmps412 ?_;refine ap ?_;intro b d e;refine av ?_;intro f g h;refine aH ?_;refine bF (GQ · ⟨0,0,aq,aR,0⟩)<|aI ?_;exact λi a=>⟨rfl,a.ext⟩
def Ck(L:List aL)(p k l:Nat)(g:Option Addr)(aq aR:Int)(r: (own 81 8 (.slice (some ⟨f,0,none⟩) o u) o<|bW.all L).pred c)(s:0<k->g=some ⟨f,p*8,none⟩)(A:p+k<=L.length)(B:L.length<=1000000):
 ay 429 [.slice g k l,.agg #[ad aq,ad aR]] c (λh d=>h= .returned (.tuple #[])/\Ext [f] c d/\(own 81 8 (.slice (some ⟨f,0,none⟩) o u) o<|bW.all<|f_ L p k aq aR).pred d):=by
 refine calls (n:=16) func429 rfl ntmps429 rfl ?_;refine dh (H':=ag c (own 81 8 (.slice (some ⟨f,0,none⟩) o u) o<|bW.all L).cT [own 81 8 (.slice (some ⟨f,0,none⟩) o u) o (bW.all L)]) (ap ?_) (Sub.refl _) λC t=>ag.sV t r<|wF _ _ _ _ _;intro m D E;refine be ?_;refine cd (ι:=Nat) (λa=>[(0,.slice g k l),(3,ptr m),(6,ad (k:Int)),(7,ad (a:Int))]) (λa=>ag c (own 81 8 (.slice (some ⟨f,0,none⟩) o u) o<|bW.all L).cT [aG m [ad aq,ad aR] 77,own 81 8 (.slice (some ⟨f,0,none⟩) o u) o<|bW.all<|f_ L p a aq aR]) (λa=>a<=k) (λa=>k - a) ?_ ?_;exact λd i=>⟨0,b4 _,(da rfl rfl rfl rfl),by
  have h:f_ L p 0 aq aR=L:=by simp[f_]
  rw[h];exact i⟩
 intro a F;refine (aE) (λv=>?_) λv=>aI ?_;have G:a<k:=by omega
 have w:=s aa
 subst w;have x:p+a<(f_ L p a aq aR).length:=by rw[w6 aa];omega
 have y:f_ L p (a+1) aq aR=(f_ L p a aq aR).set (p+a) (hr aq aR):=by
  unfold f_;apply jY
  intro b;have z: (L.take p).length=p:=by rw[dR];omega
  rw[nB];simp only[List.getElem?_append,b3,z,hy,sA,ja,fL];by_cases e:b<p
  have j: ¬p+a=b:=by omega
  simp[e,j,show b<p+a by omega,show b<p+(a+1) by omega]
  by_cases j:b=p+a
  subst j;simp[e,show p+a - p=a by omega,show a<a+1 by omega,show p+a<p+(a+1) by omega,show p+a<p+a+(L.length - (p+a)) by omega]
  by_cases n:b<p+a
  simp[e,n,show ¬p+a=b by omega,show b<p+(a+1) by omega,show b - p<a by omega,show b - p<a+1 by omega]
  simp[e,n,show ¬p+a=b by omega,show ¬b<p+(a+1) by omega,show p+(a+1)+(b - (p+(a+1)))=b by omega,show p+a+(b - (p+a))=b by omega]
 refine cZ ?_;refine bF (G_ · aq aR)<|bE (q:=a) dj rfl rfl rfl rfl aa aa ?_;refine oy (o:=(p+a)*8) gh rfl rfl fs (by rw[Addr.add_lit,kw]) rfl (bW.kz _) (by rw[bW.eD];show (p+a)*8+8<=(f_ L p a aq aR).length*8;omega) ?_;refine aU ?_;refine bv (a+1) aa aa (da rfl rfl rfl rfl) λd i=>?_;rw[y,<-uX _ x];exact i;intro H q;have:a=k:=by omega
 subst this;exact⟨rfl,q.ext,q.has<|Has.tail Has.head⟩
def uY(a: (ep t g).pred q)(x:World)(b:x=q):ag q t.ownBlock.toList [ep t g] x:=ag.sV b a<|wF _ _ _ _ _
def O8(a:List aL)(d: (ep s a).pred c)(i:a.length<=1000000):Calls prog 491 ([]++[s]++[]).toArray c (d_ s (mW a) c):=by
 refine calls (n:=11) func491 rfl ntmps491 rfl ?_;refine dh (H':=ag c s.ownBlock.toList [ep s a]) (jd Has.head λj k e l m n f=>?_) (Sub.refl _)<|uY d;subst e;refine (aE) (λg=>?_) λg=>aA ?_;obtain⟨o,rfl⟩:=f aa;refine aH ?_;refine bE (q:=a.length - 1) dj rfl rfl rfl rfl aa aa ?_;refine oy (o:=(a.length - 1)*8) gh rfl rfl cJ (by rw[Addr.add_lit,ev]) rfl (bW.kz rM) (by rw[bW.eD];show (a.length - 1)*8+8<=a.length*8;omega) ?_;refine aA ?_;exact λh b=>d_.of rfl b Has.head (by rw[mW,aB aa];exact uX rM aa)<|zj a
 exact λh b=>d_.of rfl b Has.head (by rw[mW,ai aa])<|zj a
def O9(m d:Int)(i:dH)(t: (aG f [.int .i32 d] 21).pred c)(k: (aG o [ad m] 3).pred c)(v: (aG u i.enc 79).pred c)
 (e:Value) (g:List aL) (w: (ep e g).pred c) (G:g.length<=1000000) (p: ∀q∈e.ownBlock.toList,q≠f/\q≠o/\q≠u):Calls prog 430 ([]++[e]++[ptr f,ptr o,ptr u]).toArray c (d_ e (gZ g m d i) c):=by
 have H:f∉e.ownBlock.toList:=λl=>(p _ l).1 rfl
 have I:o∉e.ownBlock.toList:=λl=>(p _ l).2.1 rfl
 have J:u∉e.ownBlock.toList:=λl=>(p _ l).2.2 rfl
 refine calls (n:=39) func430 rfl ntmps430 rfl ?_;refine dh (H':=ag c e.ownBlock.toList [ep e g]) (jd Has.head λK L x M N O y=>?_) (Sub.refl _)<|uY w;subst x;have P:=w4 d
 refine aA ?_;refine bb h_ rfl rfl (λj a=>a.cc t bR rfl)<|bF (w5 · d)<|aH ?_;refine bb bY rfl rfl (λj a=>a.cc k bR rfl)<|aA ?_;refine bl 11 rfl (λr=>?_) λr=>?_
 ·have z:=bg r
  refine ft ?_;exact λn h=>d_.of rfl h bw (by rw[gZ,aB aa])<|tf _ _ _ _
 ·have z:=bm r
  refine aH ?_;refine bl 15 rfl (λs=>?_) λs=>?_
  ·have A:=bg s
   refine cn ?_;exact λn h=>d_.of rfl h bw (by rw[gZ,aB aa])<|tf _ _ _ _
  ·have A:=bm s
   refine av ?_;refine bb bY rfl rfl (λj a=>a.cc k bR rfl) ?_;refine (aE) (λB=>ap ?_) λB=>ap ?_
   ·exact λn h=>d_.of rfl h bw (by rw[gZ,aB aa])<|tf _ _ _ _
   ·obtain⟨Q,rfl⟩:=y aa
    obtain⟨b,rfl⟩ : ∃b:Nat,m=(b:Int):=⟨m.toNat,aa⟩;refine av ?_;refine bb h_ rfl rfl (λj a=>a.cc t bR rfl)<|cE s3 rfl rfl rfl (λj a C D E=>a.kK (sz:=5) v bR rfl C D E)<|aA ?_;intro f R S;refine (aE) (λF=>a6 ?_) λF=>a7 ?_
    ·refine bb bY rfl rfl (λj a=>a.cc k bR rfl)<|aA ?_
     refine bE (q:=b+1) dj rfl rfl rfl rfl aa aa ?_;refine oy (o:=(b+1)*8) gh rfl rfl fs (by rw[Addr.add_lit,ev]) rfl (bW.kz ⟨d,[],2,i⟩) (by rw[bW.eD];show (b+1)*8+8<=g.length*8;omega) ?_;refine a6 ?_;refine bb bY rfl rfl (λj a=>a.cc k bR rfl)<|av ?_;refine bE (q:=b) dj rfl rfl rfl rfl aa aa ?_;refine oy (o:=b*8) gh rfl rfl fs (by rw[Addr.add_lit,ev]) rfl (B0 rfl rfl rfl rfl rfl rfl rfl rfl) (by (rw[FQ,bW.eD];show b*8+8<=g.length*8;omega)) ?_;refine aA ?_;intro n h;all_goals exact d_.of rfl h cz (by rw[gZ,ai aa,aB aa];exact (a_ (dJ · (b*8) (aL.enc ⟨d,[],1,i⟩))<|uX ⟨d,[],2,i⟩ (by omega:b+1<g.length)).trans<|uX ⟨d,[],1,i⟩<|by rw[gx];omega)<|tf _ _ _ _
    ·refine bb bY rfl rfl (λj a=>a.cc k bR rfl)<|av ?_
     refine bE (q:=b) dj rfl rfl rfl rfl aa aa ?_;refine oy (o:=b*8) gh rfl rfl fs (by rw[Addr.add_lit,ev]) rfl (B0 rfl rfl rfl rfl rfl rfl rfl rfl) (by (rw[bW.eD];show b*8+8<=g.length*8;omega)) ?_;refine aA ?_;intro n h;all_goals exact d_.of rfl h cz (by rw[gZ,ai aa,ai aa];exact uX ⟨d,[],0,i⟩ (by omega:b<g.length))<|tf _ _ _ _
abbrev qw(a:List aL):Chunk:=own 81 8 (.slice (some ⟨f,0,none⟩) o u) o<|bW.all a
def O_{L:List aL}(a: (qw i y A L).pred q)(b:L.length=y):Rd bW q (λ_=>True) (some ⟨i,0,none⟩) y A L:=by
 obtain⟨g,h,c,d⟩:=Rd.ho (E:=bW) (show q.ownsRow 0 81 bW.ax _ _ (bW.all L) from a) b;injection c with e j f
 subst e f;exact d.d8 λ_ _=>bh
def Ha(b: (qw i y A g).pred q)(a:g.length=y)(c:C<=y):Rd bW q (λ_=>True) (if A=C then some ⟨i,0,none⟩ else (some (⟨i,0,none⟩ :Addr)).map (·.add (C*8))) (y - C) (A - C) (g.drop C):=by
 have:=(O_ b a).cut c<|cC y
 rwa [<-a,um,a] at this
def Pb(d i aq aR:Int)(r: (aG f [ad d] 3).pred c)(s: (aG o [ad i] 3).pred c)(t: (aG u [ad aq,ad aR] 77).pred c)
 (b:Value) (a:List aL) (v: (ep b a).pred c) (w:a.length<=1000000) (j: ∀k∈b.ownBlock.toList,k≠f/\k≠o/\k≠u):Calls prog 428 ([]++[b]++[ptr f,ptr o,ptr u]).toArray c (d_ b (hE a d i aq aR) c):=by
 have G:f∉b.ownBlock.toList:=λg=>(j _ g).1 rfl
 have H:o∉b.ownBlock.toList:=λg=>(j _ g).2.1 rfl
 have I:u∉b.ownBlock.toList:=λg=>(j _ g).2.2 rfl
 refine calls (n:=22) func428 rfl ntmps428 rfl ?_;refine dh (H':=ag c b.ownBlock.toList [ep b a]) (jd Has.head λJ l x K L M y=>?_) (Sub.refl _)<|uY v;subst x;refine av ?_;refine bN [0,1,2,3,4,5,6,7] 0 [[]] ?_;refine aO rfl (λm e=>(bb bY rfl rfl (λq h=>by subst h;exact e.cc r bR rfl) aJ)) ?_;refine av ?_;refine aO rfl (λm e=>(bb bY rfl rfl (λq h=>by subst h;exact e.cc s bR rfl) aJ)) ?_;refine (aE) (λz=>?_) λz=>aA ?_;obtain⟨n,rfl⟩:=y aa;refine bN [0,1,2,3,4] 1 [[(5,true,[])]] ?_;refine ap ?_;refine aO rfl (λm e=>(gp (max 0 d).toNat (min i (a.length:Int)).toNat dj rfl rfl (.inl ⟨_,_,rfl,rfl,aa⟩) (.inl ⟨_,_,rfl,rfl,aa⟩) aa aa aJ)) ?_;refine aO rfl (λm e=>(cE ib rfl rfl rfl (λq h A B C=>by subst h;exact e.kK (sz:=2) t bR rfl A B C) aJ)) ?_;refine aA ?_;refine sU (v:= .tuple #[]) (c:=qw n a.length l a) (c':=qw n a.length l<|f_ a (max 0 d).toNat ((min i (a.length:Int)).toNat - (max 0 d).toNat) aq aR) cJ rfl (hargs:=rfl) (λD E=>Ck D n a.length l a (max 0 d).toNat _ _ _ aq aR (E.has bw) (λ_=>by rw[ai aa];simp[Addr.add_lit]) aa w) ?_;refine a7 ?_;exact λF p=>d_.of rfl p bw (by rw[hE,aB aa])<|zk _ _ _ _ _
 exact λF p=>d_.of rfl p bw (by rw[hE,ai aa])<|zk _ _ _ _ _
def Pc(p q aq aR:Int)(g: (aG f [ad p] 3).pred c)(A: (aG o [ad q] 3).pred c)(B: (aG u [ad aq,ad aR] 77).pred c)
 (h:Value) (b:List aL) (C: (ep h b).pred c) (D:b.length<=1000000) (t: ∀v∈h.ownBlock.toList,v≠f/\v≠o/\v≠u):Calls prog 472 ([]++[h]++[ptr f,ptr o,ptr u]).toArray c (d_ h (insertC b p q aq aR) c):=by
 have P:f∉h.ownBlock.toList:=λm=>(t _ m).1 rfl
 have Q:o∉h.ownBlock.toList:=λm=>(t _ m).2.1 rfl
 have R:u∉h.ownBlock.toList:=λm=>(t _ m).2.2 rfl
 refine calls (n:=41) func472 rfl ntmps472 rfl ?_;refine dh (H':=ag c h.ownBlock.toList [ep h b]) (jd Has.head λS w E T U V F=>?_) (Sub.refl _)<|uY C;subst E;refine ap ?_;refine bb bY rfl rfl (λr i=>i.cc g bR rfl)<|aA ?_;refine bl 8 rfl (λx=>?_) λx=>?_;have G:=bg x
 refine dO ?_;exact λy k=>d_.of rfl k bw (by rw[insertC,aB aa])<|uV _ _ _ _ _
 have G:=bm x
 refine av ?_;refine bb bY rfl rfl (λr i=>i.cc g bR rfl)<|aY ?_;refine bl 14 rfl (λz=>?_) λz=>?_;have H:=bg z
 refine a6 ?_;exact λy k=>d_.of rfl k bw (by rw[insertC,aB aa])<|uV _ _ _ _ _
 have H:=bm z
 refine av ?_;refine bb bY rfl rfl (λr i=>i.cc A bR rfl) ?_;refine (aE) (λI=>ap ?_) λI=>ap ?_;exact λy k=>d_.of rfl k bw (by rw[insertC,aB aa])<|uV _ _ _ _ _
 obtain⟨s,rfl⟩:=F aa;obtain⟨a,rfl⟩ : ∃a:Nat,p=(a:Int):=⟨p.toNat,aa⟩;obtain⟨d,J⟩ : ∃d:Nat,min q ((b.length:Int) - (a:Int))=(d:Int):=⟨(min q<|(b.length:Int) - (a:Int)).toNat,aa⟩;refine av ?_;refine bb bY rfl rfl (λr i=>i.cc A bR rfl)<|aA ?_;refine bb bY rfl rfl (λr i=>i.cc g bR rfl)<|aH ?_;refine bN [0,1,2,3,4,5,6,7] 1 [[(8,true,[])]] ?_;refine av ?_;refine aO rfl (λl e=>(bb bY rfl rfl (λn j=>by subst j;exact e.cc g bR rfl) aJ)) ?_;refine aA ?_;refine aO rfl (λl e=>(gp (a+d) b.length dj rfl rfl (.inl ⟨_,_,rfl,rfl,aa⟩) (.inr ⟨rfl,rfl⟩) aa aa aJ)) ?_;refine av ?_;refine aO rfl (λl e=>(bb bY rfl rfl (λn j=>by subst j;exact e.cc g bR rfl) aJ)) ?_;refine aO rfl (λl e=>(gp a b.length dj rfl rfl (.inl ⟨_,_,rfl,rfl,aa⟩) (.inr ⟨rfl,rfl⟩) aa aa aJ)) ?_;refine aA ?_;refine zi (E:=bW) (L:=b) (src:=b.drop a) (g:=s) (F:=λ_=>True) (a+d) (b.length - a - d) aa dj rfl rfl rfl (λW=>by rw[ai aa];simp[Addr.add_lit];rfl) aa cJ (λn g=>Ha (g.has bw) rfl aa) ?_;refine a7 ?_;refine bN [0,1,2,3,4,5,6] 1 [[(7,true,[])]] ?_;refine av ?_;refine aO rfl (λl e=>(bb bY rfl rfl (λn j=>by subst j;exact e.cc g bR rfl) aJ)) ?_;refine aO rfl (λl e=>(bb bY rfl rfl (λn j=>by subst j;exact e.cc g bR rfl) aJ)) ?_;refine aA ?_;refine aO rfl (λl e=>(gp a (a+d) dj rfl rfl (.inl ⟨_,_,rfl,rfl,aa⟩) (.inl ⟨_,_,rfl,rfl,aa⟩) aa aa aJ)) ?_;refine aO rfl (λl e=>(cE ib rfl rfl rfl (λn j K L M=>by subst j;exact e.kK (sz:=2) B bR rfl K L M) aJ)) ?_;refine aA ?_;refine sU (v:= .tuple #[]) (c:=qw s b.length w<|l6 b a (a+d)<|b.length - a - d) (c':=qw s b.length w<|f_ (l6 b a (a+d)<|b.length - a - d) a (a+d - a) aq aR) cJ rfl (hargs:=rfl) (λN O=>Ck N s b.length w _ a _ _ _ aq aR (O.has bw) (λ_=>by rw[ai aa];simp[Addr.add_lit]) (by rw[uU aa aa];omega)<|by rw[uU aa aa];exact D) ?_;refine a7 ?_;exact λy k=>d_.of rfl k bw (by rw[insertC,ai aa,J,show ((a:Int)+(d:Int)).toNat=a+d by omega,show ((b.length:Int) - (a:Int) - (d:Int)).toNat=b.length - a - d by omega,show ((a:Int)).toNat=a by omega,show ((d:Int)).toNat=d by omega,show a+d - a=d by omega])<|uV _ _ _ _ _
def Pd(n p aq aR:Int)(i: (aG f [ad n] 3).pred c)(A: (aG o [ad p] 3).pred c)(B: (aG u [ad aq,ad aR] 77).pred c)
 (e:Value) (a:List aL) (C: (ep e a).pred c) (D:a.length<=1000000) (s: ∀t∈e.ownBlock.toList,t≠f/\t≠o/\t≠u):Calls prog 474 ([]++[e]++[ptr f,ptr o,ptr u]).toArray c (d_ e (kL a n p aq aR) c):=by
 have P:f∉e.ownBlock.toList:=λk=>(s _ k).1 rfl
 have Q:o∉e.ownBlock.toList:=λk=>(s _ k).2.1 rfl
 have R:u∉e.ownBlock.toList:=λk=>(s _ k).2.2 rfl
 refine calls (n:=41) func474 rfl ntmps474 rfl ?_;refine dh (H':=ag c e.ownBlock.toList [ep e a]) (jd Has.head λS v E T U V F=>?_) (Sub.refl _)<|uY C;subst E;refine ap ?_;refine bb bY rfl rfl (λq g=>g.cc i bR rfl)<|aA ?_;refine bl 8 rfl (λw=>?_) λw=>?_;have G:=bg w
 refine dO ?_;exact λx j=>d_.of rfl j bw (by rw[kL,aB aa])<|uW _ _ _ _ _
 have G:=bm w
 refine av ?_;refine bb bY rfl rfl (λq g=>g.cc i bR rfl)<|aY ?_;refine bl 14 rfl (λy=>?_) λy=>?_;have H:=bg y
 refine a6 ?_;exact λx j=>d_.of rfl j bw (by rw[kL,aB aa])<|uW _ _ _ _ _
 have H:=bm y
 refine av ?_;refine bb bY rfl rfl (λq g=>g.cc A bR rfl) ?_;refine (aE) (λI=>ap ?_) λI=>ap ?_;exact λx j=>d_.of rfl j bw (by rw[kL,aB aa])<|uW _ _ _ _ _
 obtain⟨r,rfl⟩:=F aa;obtain⟨d,rfl⟩ : ∃d:Nat,n=(d:Int):=⟨n.toNat,aa⟩;obtain⟨b,J⟩ : ∃b:Nat,min p ((a.length:Int) - (d:Int))=(b:Int):=⟨(min p<|(a.length:Int) - (d:Int)).toNat,aa⟩;refine av ?_;refine bb bY rfl rfl (λq g=>g.cc A bR rfl)<|aA ?_;refine bb bY rfl rfl (λq g=>g.cc i bR rfl)<|aH ?_;refine bN [0,1,2,3,4,5,6,7] 1 [[(8,true,[])]] ?_;refine av ?_;refine aO rfl (λl h=>(bb bY rfl rfl (λz m=>by subst m;exact h.cc i bR rfl) aJ)) ?_;refine aO rfl (λl h=>(gp d a.length dj rfl rfl (.inl ⟨_,_,rfl,rfl,aa⟩) (.inr ⟨rfl,rfl⟩) aa aa aJ)) ?_;refine av ?_;refine aO rfl (λl h=>(bb bY rfl rfl (λz m=>by subst m;exact h.cc i bR rfl) aJ)) ?_;refine aA ?_;refine aO rfl (λl h=>(gp (d+b) a.length dj rfl rfl (.inl ⟨_,_,rfl,rfl,aa⟩) (.inr ⟨rfl,rfl⟩) aa aa aJ)) ?_;refine aA ?_;refine zi (E:=bW) (L:=a) (src:=a.drop<|d+b) (g:=r) (F:=λ_=>True) d (a.length - d - b) aa dj rfl rfl rfl (λW=>by rw[ai aa];simp[Addr.add_lit];rfl) aa cJ (λz i=>Ha (i.has bw) rfl aa) ?_;refine a7 ?_;refine bN [0,1,2,3,4,5,6] 1 [[(7,true,[])]] ?_;refine aI ?_;refine aO rfl (λl h=>(gp (a.length - b) a.length dj rfl rfl (.inl ⟨_,_,rfl,rfl,aa⟩) (.inr ⟨rfl,rfl⟩) aa aa aJ)) ?_;refine aO rfl (λl h=>(cE ib rfl rfl rfl (λz m K L M=>by subst m;exact h.kK (sz:=2) B bR rfl K L M) aJ)) ?_;refine aA ?_;refine sU (v:= .tuple #[]) (c:=qw r a.length v<|l6 a (d+b) d<|a.length - d - b) (c':=qw r a.length v<|f_ (l6 a (d+b) d<|a.length - d - b) (a.length - b) (a.length - (a.length - b)) aq aR) cJ rfl (hargs:=rfl) (λN O=>Ck N r a.length v _ (a.length - b) _ _ _ aq aR (O.has bw) (λ_=>by rw[ai aa];simp[Addr.add_lit]) (by rw[uU aa aa];omega)<|by rw[uU aa aa];exact D) ?_;refine a7 ?_;exact λx j=>d_.of rfl j bw (by rw[kL,ai aa,J,show ((d:Int)+(b:Int)).toNat=d+b by omega,show ((a.length:Int) - (d:Int) - (b:Int)).toNat=a.length - d - b by omega,show ((d:Int)).toNat=d by omega,show ((b:Int)).toNat=b by omega,show ((a.length:Int) - (b:Int)).toNat=a.length - b by omega,show a.length - (a.length - b)=b by omega])<|uW _ _ _ _ _
