/- part 6 of the proof -/
import Derived.Test.YtnfmgboendlmaaaGreatDoorQ05
import Derived.Laws.BytesString
import Derived.Laws.Externs
import Derived.Laws.Shifts
import Derived.Lib.Bytealg
set_option linter.all false
namespace Go.Proofs.YtnfmgboendlmaaaGreatDoor.Mq
open RowKit
variable {P:Program}{n d:Nat}{ops:Array Oper}{Q:cN}{rest:List Oper}{l:Fr}{ty:TypeId}{pos:String}{bf:Array Edge}
variable {z:Array Oper}{v:Array TypeId}{T:Bool}{F:Fr}{w:Fr->Prop}{J:FuncId}{m:List (List (Nat × Bool × List Nat))}{G:List Chunk}{s:List Nat}{c:List Oper}{u:List Operand}{t:List Value}{E e:Nat}{U:Nat × Bool × List Nat}{W:Nat->Bool}{S:Oper}{Z:Option Addr}{f:Program}{I:TypeId}{C:Value}{K:World}{h:World->Prop}{D:cN}(A:List (Nat × Bool × List Nat))(O:List Chunk)(X:Program)(q:Nat)(o:List Oper)(R:World)(g:List Nat)(p:List (List (Nat × Bool × List Nat)))(L:Nat)(M:Act)(B:World->Prop)(V:Oper)(Y:Nat->Bool)
def rF :Prop:= ∀a∈O,a.pred R
def ag.aQ{w:World}(a:ag K s G w):rF G w:=a.all
def rF.e8(a:rF G K){g:Nat}{xs:List Value}(b:Has G (aG g xs I)){o:Nat}{v:Value}(c:xs[o]? = some v):
 K.cell? ⟨g,o,none⟩=some v:=by
 have d:K.heap[g]? = some (.cells xs.toArray I (0,0)):=a _ b.mem
 rw[cell_of_row K g o xs.toArray I (0,0) d];simpa using c
def ie(e:Program)(f:Nat)(g:Array Oper)(h:World->Prop)(i:Fr->Prop):List Oper->Fr->Prop
 | [],a=>i a
 | af::k,a=> ∃b j,af.dst=some b/\(∀c,h c->aM e f g (qh ((b,j)::a) λd=>d=c) [af] a λd=>d=c)/\ie e f g h i k ((b,j)::a)
def rG{l:Fr}(a:w l):ie f e z h w [] l:=a
def aO{l:Fr}(d:S.dst=some E)
 (g: ∀a,h a->aM f e z (qh ((E,C)::l) λb=>b=a) [S] l λb=>b=a) (i:ie f e z h w c ((E,C)::l)):ie f e z h w (S::c) l:=⟨E,C,d,g,i⟩
def qm{l:Fr}(d:look l q=some (.bool T))(a:T=true->ie f e z h w c l)(b:T=false->ie f e z h w c l):ie f e z h w c l:=by
 cases T
 exact b rfl;exact a rfl
def Gu{d:Fr->Prop}(g: ∀a,w a->d a): ∀(b:List Oper)(a:Fr),ie f e z h w b a->ie f e z h d b a
 | [],_,c=>g _ c
 | _::b,_,⟨i,j,k,c,l⟩=>⟨i,j,k,c,Gu g b _ l⟩
def fS:List (Nat × Bool × List Nat)->List Nat
 | []=>[]
 | s::a=>s.1::(s.2.2++fS a)
def s8 :List (Nat × Bool × List Nat)->Bool
 | s::_=>Nat.beq s.1 q
 | []=>false
def mL:List (List<|Nat × Bool × List Nat)->List (Nat × Bool × List Nat)
 | []=>[]
 | []::a=>mL a
 | (b::_)::a=>match a.any (s8 b.1) with
  | true=>mL a
  | false=>b::mL a
def mM(a:Nat):List (List<|Nat × Bool × List Nat)->List (List<|Nat × Bool × List Nat)
 | []=>[]
 | []::b=>mM a b
 | (c::d)::b=>match Nat.beq c.1 a with
  | true=>d::mM a b
  | false=>mM a b
def kE(d:Program)(e:Nat)(a:List Oper)(j:cN):Nat->List (List<|Nat × Bool × List Nat)->(World->Prop)->Fr->(World->Prop)->Prop
 | 0,_,_,f,g=>eK j .normal f g
 | k+1,l,m,f,g=> ∀b∈mL l,aM d e a.toArray (sX λn h=>(b.2.1=true\/m h)/\ ∃i:World->Prop,i h/\ie d e a.toArray i (λo=>kE d e a j k (mM b.1 l) (λc=>(b.2.1=true\/m c)/\i c) o λc=>c=h) (b.2.2.map λp=>a.getD p default) n) [a.getD b.1 default] f g
def Gv : ∀(g:Nat){h:List (List<|Nat × Bool × List Nat)}{i:World->Prop}{j:Fr}{k l:World->Prop},kE f e c D g h i j k->(∀a,l a->k a)->kE f e c D g h i j l
 | 0,_,_,_,_,_,b,d=>λa m=>b a<|d a m
 | _+1,_,_,_,_,_,b,d=>λn o=>iL (b n o) (Sub.refl _) d
def yX{H:World->Prop}(a:eK D .normal F H):kE f e c D 0 m h F H:=a
def uC{H:World->Prop}(i:mL m=A)
 (j: ∀a∈A,aM f e c.toArray (sX λk d=>(a.2.1=true\/h d)/\ ∃g:World->Prop,g d/\ie f e c.toArray g (λl=>kE f e c D E (mM a.1 m) (λb=>(a.2.1=true\/h b)/\g b) l λb=>b=d) (a.2.2.map λn=>c.getD n default) k) [c.getD a.1 default] F H):
 kE f e c D (E+1) m h F H:=by subst i;exact j
def cv{H:World->Prop} 
 (l: ∀a,H a->(U.2.1=true\/h a)) (n: ∀a,H a->B a) (d:ie f e c.toArray B (λg=>kE f e c D E (mM U.1 m) (λb=>(U.2.1=true\/h b)/\B b) g H) (U.2.2.map λi=>c.getD i default) F):
 aM f e c.toArray (sX λo j=>(U.2.1=true\/h j)/\ ∃B:World->Prop,B j/\ie f e c.toArray B (λg=>kE f e c D E (mM U.1 m) (λb=>(U.2.1=true\/h b)/\B b) g λb=>b=j) (U.2.2.map λi=>c.getD i default) o) [] F H:=
 nD λa k=>⟨l a k,B,n a k,Gu (λ_ d=>Gv E d λ_ p=>p▸k) _ _ d⟩
def l3(a b:Nat):Bool:=(g.takeWhile λc=> !Nat.beq c b).any<|Nat.beq a
def BO(a b:Nat):Bool:=(wH o a a).any<|Nat.beq b
def Gw :Bool:=
 (match V.dst with
  | some a=>Nat.blt a q && (match writer o a with | some c=>Nat.beq c L | none=>false)
  | none=>true) &&
 (V.looksAt o.toArray).all (Bz o L V) &&
 (V.after.all λb=> !Region.binds .any b || Nat.blt b.on L) &&
 (match V.op with | .select .. =>false | _=>true)
def yY(a:Nat):Bool:=match o[a]? with
 | some c=>(c.looksAt o.toArray).all (λd=>match writer o d with
  | none=>true
  | some b=>match Nat.blt b a with
   | true=>l3 g b a
   | false=> !l3 g b a)
 | none=>false
def uD(c:List Oper)(d:List Nat):Nat->List (Nat × Bool × List Nat)->List (List<|Nat × Bool × List Nat)->Bool
 | 0,a,_=>(List.range c.length).all λe=>(d++fS a).any<|Nat.beq e
 | k+1,a,f=>
  (match mL f with | []=>false | _=>true) && ((List.range c.length).all λe=>(d++fS a).any (Nat.beq e) || f.any (s8 e) || (List.range c.length).any λg=> !(d++fS a).any (Nat.beq g) && BO c e g) &&
  (mL f).all λb=>wL (d++fS (a++[b])) && (b.1::b.2.2).all (yY c<|d++fS (a++[b])) &&
   (!b.2.1 || (d++fS a).all λh=>a.any (λi=>Nat.beq i.1 h) || BO c b.1 h) && uD c d k (a++[b]) (mM b.1 f)
def BP(c:List (List<|Nat × Bool × List Nat))(a:List Oper):Bool:=
 ((List.range a.length).all λb=>match a[b]? with
  | some d=>Gw q a b d
  | none=>true) &&
 wL g && g.all (yY a g) && uD a g L [] c
def any_beq{l:List Nat} :l.any (Nat.beq e)=true↔e∈l:=by
 rw[List.any_eq_true];constructor
 rintro⟨d,a,b⟩;rw[gX b];exact a
 intro c;exact⟨e,c,by simp⟩
def Gx(a:l3 s e E=true):e∈s:=by
 have:=any_beq.1 a
 exact List.Sublist.mem this<|List.takeWhile_sublist _
def BQ{i:Nat}(h:i∈s):l3 (s++g) e i=l3 s e i:=by
 unfold l3;congr 1
 induction s with
 | nil=>cases h
 | cons a s b=>
  simp only[nz,List.takeWhile_cons];cases c:Nat.beq a i with
  | true=>simp
  | false=>
   have:i∈s:=by
    rcases eJ.1 h with rfl | h
    simp at c
    exact h
   simp[b this]
def BR(a:E∉s):l3 (s++E::g) e E=true↔e∈s:=by
 unfold l3;rw[any_beq];have: (s++E::g).takeWhile (λg=> !Nat.beq g E)=s:=by
  induction s with
  | nil=>simp
  | cons b s c=>
   have d:Nat.beq b E=false:=by
    cases f:Nat.beq b E with
    | false=>rfl
    | true=>exact absurd (gX f) λh=>a<|h▸List.mem_cons_self
   simp only[nz,List.takeWhile_cons,d,Bool.not_false,if_true];rw[c λi=>a<|sE _ i]
 rw[this]
def yZ: ∀(a:List Nat),wL a=true->a.Nodup
 | [],_=>List.nodup_nil
 | x::a,b=>by
  simp only[wL,dK,p4,List.any_eq_false] at b
  exact List.nodup_cons.2 ⟨λc=>b.1 x c au,yZ a b.2⟩
def Gy(y:List (Nat × Bool × List Nat)):fS (A++y)=fS A++fS y:=by
 induction A with
 | nil=>rfl
 | cons b A a=>simp[fS,a]
def Gz(d: ∀(E:Nat)(a:Oper),c[E]? = some a->W E=true-> ∀b∈a.after,Region.binds .any b=true->W b.on=true)
 (f: ∀(a:Oper),c[e]? = some a-> ∀b∈a.after,Region.binds .any b=true->W b.on=true) (g:BO c e E=true):W E=true:=
 NR d f _ E (any_beq.1 g)
def wM(c:List Nat)(d:Act):Prop:= ∀a,(∀b,writer o a=some b->b∉c)->d.tmps[a]? = M.tmps[a]?
def uE(l:World->Prop)(h:List Nat)(i:Act):Prop:=
 ∀c∈h,Y c=false-> ∃(b:Oper)(d:Fr)(j:Act)(e:Nat)(k:Value),o[c]? = some b/\b.dst=some e/\hn q d j/\i.tmps[e]? = some k/\
  (∀f,l f->aM X q o.toArray (qh ((e,k)::d) λg=>g=f) [b] d λg=>g=f)/\
  ∀a∈b.looksAt o.toArray,j.tmps[a]? = (match writer o a with
   | some m=>if l3 h m c=true then i.tmps[a]? else M.tmps[a]?
   | none=>M.tmps[a]?)
def GA{a0:Act}{D:Nat->Bool}{HBa HB:World->Prop}(C: ∀(b:Nat)(t:Oper)(d:Nat),c[b]? = some t->t.dst=some d->d<e/\writer c d=some b)(Y: ∀u,HBa u->HB u):
 ∀(j g:List Nat)(i:Act)(n:Fr),(g++j).Nodup->(∀q∈j,q<c.length)->hn e n i->wM c a0 g i->uE f e c a0 D HBa g i->ie f e c.toArray HB w (j.map λq=>c.getD q default) n->
 ∃r E,hn e E r/\w E/\wM c a0 (g++j) r/\uE f e c a0 D HBa (g++j) r/\ ∀a,(∀b,writer c a=some b->b∉j)->r.tmps[a]? = i.tmps[a]? :=by
 intro j;induction j with
 | nil=>intro g i n _ _ p x y H;exact⟨i,n,p,H,by simpa using x,by simpa using y,λ_ _=>rfl⟩
 | cons q j Z=>
  intro g i n I N p x y H;obtain⟨d,v,O,Za,Zb⟩:=H;have Zc:=N q au
  have P:c[q]? = some (c.getD q default):=by simp[List.getD,bD Zc]
  obtain⟨Zd,J⟩:=C q _ d P O;have z:q∉g:=λhm=>by
   rw[gO] at I
   exact I.2.2 q hm q au rfl
  let o:Act:=i.put (some d) v
  have s: ∀a,a≠d->o.tmps[a]? = i.tmps[a]? :=λa k=>by
   show (i.tmps.setIfInBounds d v)[a]? = _
   rw[wo λh=>k h.symm]
  have Q:o.tmps[d]? = some v:=by
   show (i.tmps.setIfInBounds d v)[d]? = _
   simp[p.size,Zd]
  have K: ∀a b,writer c a=some b->b≠q->a≠d:=λa b R y h=>by
   subst h;rw[J] at R;exact y (lw R).symm
  have Ze:hn e ((d,v)::n) o:=by
   refine⟨by simp[o,Act.put,p.size],by simpa [o,Act.put] using p.qd,λa Zf A=>?_⟩;simp only[look] at A
   cases F:Nat.beq d a with
   | true=>
    rw[F] at A
    have Zg:=gX F
    subst Zg;rw[Q];exact A
   | false=>
    rw[F] at A
    rw[s a λh=>wx F h.symm];exact p.val a Zf A
  have Zh:wM c a0 (g++[q]) o:=by
   intro a k;have Zi:a≠d:=λh=>by subst h;exact k q J au
   rw[s a Zi];exact x a λb L hm=>k b L (by simp[hm])
  have Zj:uE f e c a0 D HBa (g++[q]) o:=by
   intro l M Zk;rcases dq.1 M with hm | hm
   obtain⟨t,Zl,Zm,G,v0,S,T,Zn,Zo,Zp,Zq⟩:=y l hm Zk;have Zr:l≠q:=λh=>z<|h▸hm
   refine⟨t,Zl,Zm,G,v0,S,T,Zn,?_,Zp,λa k=>?_⟩;rw[s G (K G l (C l t G S T).2 Zr)];exact Zo
   rw[Zq a k];cases B:writer c a with
   | none=>rfl
   | some b=>
    simp only;rw[BQ _ hm];by_cases m:l3 g b l=true
    rw[aB m,aB m,s a<|K a b B λh=>z<|h▸Gx m];rw[ai m,ai m]
   obtain rfl:l=q:=by simpa using hm
   refine⟨_,n,i,d,v,P,O,p,Q,λu C=>Za u<|Y u C,λa k=>?_⟩;cases B:writer c a with
   | none=>exact x a (by simp[B])
   | some b=>
    simp only;by_cases m:l3 (g++[l]) b l=true
    have hm:=(BR [] z).1 m
    rw[aB m,s a<|K a b B λh=>z<|h▸hm];rw[ai m];refine x a λZv U hm=>m<|(BR [] z).2 ?_
    rw[B] at U
    rw[lw U];exact hm
  have V:g++[q]++j=g++q::j:=by simp
  obtain⟨r,E,Zs,Zt,W,X,Zu⟩:=Z (g++[q]) o ((d,v)::n) (by rw[V];exact I) (λl M=>N l<|by simp[M]) Ze Zh Zj Zb;rw[V] at W X
  refine⟨r,E,Zs,Zt,W,X,λa k=>?_⟩;rw[Zu a λb L hm=>k b L<|by simp[hm]];exact s a (λh=>by subst h;exact k q J au)
def Of : ∀{i:Nat},p.any (s8 i)=true-> ∃a∈mL p,a.1=i:=by
 induction p with
 | nil=>intro i h;simp at h
 | cons c d b=>
  intro i h;cases c with
  | nil=>
   have f:d.any (s8 i)=true:=by simpa [s8] using h
   exact b f
  | cons a c=>
   simp only[List.any_cons,s8,ny] at h
   unfold mL;cases e:d.any (s8 a.1) with
   | true=>
    rcases h with h | h
    rw[gX h] at e;exact b e
    exact b h
   | false=>
    rcases h with h | h
    exact⟨a,by simp,gX h⟩;obtain⟨g,j,k⟩:=b h;exact⟨g,by simp[j],k⟩
def rH(a:Nat):Prop:= ∃c,o[a]? = some c/\ ∀d∈c.looksAt o.toArray,∀b,writer o d=some b->(b<a->l3 g b a=true)/\(¬b<a->l3 g b a=false)
def BS{i:Nat}(b:yY c s i=true):rH c s i:=by
 unfold yY at b
 cases d:c[i]? with
 | none=>rw[d] at b;cases b
 | some g=>
  rw[d] at b
  refine⟨g,d,λh j e k=>?_⟩;have a:=jW.1 b h j
  rw[k] at a
  simp only at a
  refine⟨λf=>?_,λf=>?_⟩;rw[show Nat.blt e i=true from Nat.ble_eq_true_of_le f] at a;exact a
  have:Nat.blt e i=false:=by
   cases l:Nat.blt e i with
   | false=>rfl
   | true=>exact absurd (ej l) f
  rw[this] at a
  simpa using a
def rH.oG{i:Nat}(a:rH c s i)(d:i∈s)(b:List Nat):rH c (s++b) i:=by
 obtain⟨e,f,a⟩:=a;exact⟨e,f,λg h j k=>by rw[BQ b d];exact a g h j k⟩
def fg{H:World->Prop}{id:Nat}(ZN:Nat)(ZO:List (List<|Nat × Bool × List Nat))(Q:World->Prop)(Zc:f.follows .mixedOrders=true)(ZP:BP e g ZN ZO c=true)
 (Zah: ∀R,H R->H R.drew) (Zbl: ∀R,H R->Q R)
 (h:ie f e c.toArray Q (λZs=>kE f e c D ZN ZO Q Zs H) (g.map λn=>c.getD n default) F):dA f e (.region id c.toArray true) D F H:=by
 intro R ZB a ZQ;unfold BP at ZP
 simp only[dK] at ZP
 obtain⟨⟨⟨Zbm,Zbn⟩,Zbo⟩,Zbp⟩:=ZP;have ZR: ∀(i:Nat)(af:Oper),c[i]? = some af->(∀m,af.dst=some m->m<e/\writer c m=some i)/\(∀t∈af.looksAt c.toArray,Bz c i af t=true)/\
  (∀b∈af.after,Region.binds .any b=true->b.on<i)/\(∀Zai o,af.op≠ .select Zai o):=by
  intro i af C;have ZS:=(cH.1 C).1
  have:=jW.1 Zbm i (by simpa using ZS)
  rw[C] at this
  unfold Gw at this
  simp only[dK] at this
  obtain⟨⟨⟨B,Y⟩,Zbq⟩,Zaj⟩:=this;refine⟨λm u=>?_,λt j=>jW.1 Y t j,λb M E=>?_,λZai o w=>by rw[w] at Zaj;cases Zaj⟩;rw[u] at B
  simp only[dK] at B
  refine⟨ej B.1,?_⟩;cases ZC:writer c m with
  | none=>rw[ZC] at B;cases B.2
  | some k=>rw[ZC] at B;rw[gX B.2]
  have:=Array.all_eq_true_iff_forall_mem.1 Zbq b M
  simp only[ny,p4,E] at this
  rcases this with this | this
  cases this
  exact ej this
 have Zt: ∀(i:Nat)(af:Oper)(m:Nat),c[i]? = some af->af.dst=some m->m<e/\writer c m=some i:=λi af m C u=>(ZR i af C).1 m u
 have ZT: ∀t k,writer c t=some k-> ∃af,c[k]? = some af/\af.dst=some t:=by
  intro t k Zt;obtain⟨x,A,ZD⟩:=NJ Zt;refine⟨x,A,?_⟩;cases u:x.dst with
  | none=>rw[u] at ZD;cases ZD
  | some m=>rw[u] at ZD;rw[gX ZD]
 have Zak: ∀i∈g,rH c g i:=λi Zd=>BS<|jW.1 Zbo i Zd
 have Zbr: ∀n∈g,n<c.length:=λn K=>let ⟨_,C,_⟩:=Zak n K;(cH.1 C).1
 have Zbs:uE f e c a (λ_=>false) Q [] a:=λn K=>by simp at K
 obtain⟨Zbt,Zbu,Zbv,Zbw,Zal,Zam,Zdr⟩:=GA (D:=λ_=>false) (a0:=a) (HBa:=Q) Zt (λ_ h=>h) g [] a F (by simpa using yZ _ Zbn) Zbr ZQ (λt _=>rfl) Zbs h;simp only[mA] at Zal Zam
 let ZU: (Nat->Bool)->Act->World->Prop:=λq y S=> ∃(O:Nat)(pre:List (Nat × Bool × List Nat))(T:List (List<|Nat × Bool × List Nat))(o:Act)(X:World->Prop)(Ze:Fr),uD c g O pre T=true/\(∀i∈g++fS pre,rH c (g++fS pre) i)/\
  y.tmps.size=e/\y.defers=[]/\hn e Ze o/\
  (∀i,q i=true->i∈g++fS pre)/\(∀s∈pre,q s.1=true)/\
  (∀(k:Nat)(af:Oper),c[k]? = some af->q k=true-> ∀b∈af.after,Region.binds .any b=true->q b.on=true)/\
  (∀t,y.tmps[t]? = (match writer c t with
   | some i=>if q i=true then o.tmps[t]? else a.tmps[t]?
   | none=>a.tmps[t]?))/\
  wM c a (g++fS pre) o/\uE f e c a q X (g++fS pre) o/\X S/\kE f e c D O T X Ze λx=>x=S
 refine wp_region_any Zc<|NI (P:=f) (ops:=c.toArray) (Q:=qe e D) ZU ?_ ?_ ?_ _ _ a _ au au ?_;rintro q i af y S C Zan ZV ⟨O,pre,T,o,X,Ze,U,ZE,Zl,ZF,Zu,Zv,ZG,Zw,Zm,Y,Zn,ZW,ZH⟩;have V:c[i]? = some af:=by simpa using C
 have Zao:=(cH.1 V).1
 obtain⟨ZI,Zbx,Zds,Zap⟩:=ZR i af V;have Zaq: ∀(k:Nat)(Zo:Oper),c[k]? = some Zo->(q k || k == i)=true-> ∀b∈Zo.after,Region.binds .any b=true->(q b.on || b.on == i)=true:=by
  intro p Zo Z L b M Zp;simp only[ny,beq_iff_eq] at L ⊢
  rcases L with L | rfl
  exact .inl<|Zw p Zo Z L b M Zp;rw[V] at Z
  simp only[ek] at Z
  subst Z;exact .inl<|ZV b M Zp
 have BT: ∀(ZJ:Oper),c[i]? = some ZJ-> ∀b∈ZJ.after,Region.binds .any b=true->q b.on=true:=by
  intro ZJ Z;rw[V] at Z
  simp only[ek] at Z
  subst Z;exact ZV
 have Zar: ∀t∈af.looksAt c.toArray,y.tmps[t]? = (match writer c t with
  | some l=>if l<i then o.tmps[t]? else a.tmps[t]?
  | none=>a.tmps[t]?):=by
  intro t j;have w:=Zbx t j
  rw[Zm t];unfold Bz at w
  cases r:writer c t with
  | none=>rfl
  | some p=>
   rw[r] at w
   simp only at w ⊢
   cases W:Nat.blt p i with
   | true=>
    rw[W] at w
    have N:p<i:=ej W
    obtain⟨b,M,Zp,Zby⟩:=yI w;have L:=ZV b M Zp
    rw[Zby] at L
    rw[aB L,aB N]
   | false=>
    rw[W] at w
    have Zbz: ¬p<i:=λZS=>by
     have:Nat.blt p i=true:=Nat.ble_eq_true_of_le ZS
     rw[this] at W;cases W
    rw[ai Zbz];cases Zas:Nat.blt i p with
    | true=>
     rw[Zas] at w
     cases ZX:c[p]? with
     | none=>rw[ZX] at w;cases w
     | some Zca=>
      rw[ZX] at w
      obtain⟨b,M,Zp,Zcb⟩:=yI w;have L: ¬q p=true:=λL=>by
       have:=Zw p Zca ZX L b M Zp
       rw[Zcb,Zan] at this;cases this
      rw[ai L]
    | false=>rw[Zas] at w;cases w
 unfold wpOp;rw[C];simp only;by_cases Zf:i∈g++fS pre
 ·
  obtain⟨ZJ,ZY,Zg,m,v,J,u,Zat,ZZ,Zcc,Z0⟩:=Zn i Zf Zan;rw[V] at J
  simp only[ek] at J
  subst J;obtain⟨Zau,ZC⟩:=ZI m u;obtain⟨Zo,J,Z1⟩:=ZE i Zf;rw[V] at J
  simp only[ek] at J
  subst J;have Zx: ∀t∈af.looksAt c.toArray,Zg.tmps[t]? = y.tmps[t]? :=by
   intro t j;rw[Z0 t j,Zar t j];cases r:writer c t with
   | none=>rfl
   | some p=>
    simp only;have E:=Z1 t j p r
    by_cases N:p<i
    rw[aB (E.1 N),aB N];rw[ai (by rw[E.2 N];simp),ai N]
  have Z2: ∀x∈af.op.operands,Zg.eval x=y.eval x:=by
   intro x A;cases x with
   | tmp t=>
    have j:t∈af.looksAt c.toArray:=by
     unfold Oper.looksAt;refine p7 _<|List.mem_filterMap.2 ⟨.tmp t,by simpa using A,rfl⟩
    simp only[Act.eval,k5,Zx t j]
   | _=>rfl
  have Z3:=execOp_congr af Zap Z2
  have ZK:Region.wanted af (yielded c.toArray Zg.tmps)=Region.wanted af (yielded c.toArray y.tmps):=by
   unfold Region.wanted;cases Z4:af.guard with
   | none=>rfl
   | some Z5=>
    obtain⟨p,Zcd⟩:=Z5;simp only;congr 1
    unfold yielded;cases Z6: (c.toArray[p]?).bind (·.dst) with
    | none=>rfl
    | some t=>
     have j:t∈af.looksAt c.toArray:=by
      unfold Oper.looksAt;refine wr _ ?_;simp only[Z4,Z6];simp
     simp only[sN,Zx t j]
  have G:=Zcc S ZW S rfl Zg Zat
  have Zy: ∀z I,qe e (qh ((m,v)::ZY) λx=>x=S) .normal (Zg.put af.dst z) I->ZU (λk=>q k || k == i) (y.put af.dst z) I:=by
   rintro z I ⟨Zdt,Zce,Zcf,rfl⟩;have Zcg:z=v:=by
    have B:=Zce.val m v<|Zcf m v (by simp[look])
    rw[u] at B
    simp only[Act.put] at B
    rw[Array.getElem?_setIfInBounds] at B
    simp[Zat.size,Zau] at B
    exact B
   subst Zcg;refine⟨O,pre,T,o,X,Ze,U,ZE,by rw[u];simp[Act.put,Zl],by rw[u];exact ZF,Zu,λl d=>?_,λs w=>by simp[ZG s w],Zaq,λt=>?_,Y,λn K Za=>?_,ZW,ZH⟩;simp only[ny,beq_iff_eq] at d
   rcases d with d | rfl
   exact Zv l d;exact Zf;rw[u];simp only[Act.put];by_cases Z7:m=t
   subst Z7;rw[ZC];simp[Zl,Zau,ZZ]
   rw[wo Z7,Zm t];cases r:writer c t with
   | none=>rfl
   | some p=>
    have N:p≠i:=by
     rintro rfl;obtain⟨x,A,Zq⟩:=ZT t p r;rw[V] at A
     simp only[ek] at A
     subst A;rw[u] at Zq
     simp only[ek] at Zq
     exact Z7 Zq
    have: (p == i)=false:=by simpa using N
    simp[this]
   simp only[Bool.or_eq_false_iff] at Za
   exact Zn n K Za.1
  unfold wpList at G
  split
  rename_i Zh;rw[ZK,aB Zh] at G
  rcases G with G | ⟨_,Z8,Zi,Zj,_,P⟩
  refine .inl<|FZ Z3 (λz I Zch=>Zy z I Zch) ?_ ?_ ?_ G;rintro Zci v0 Zi ⟨Zj,Z9,_⟩;have:=Z9.qd
  rw[u] at this
  simp[Act.put] at this
  rintro Zcj Zi ⟨Zj,_,P⟩;exact P.elim;rintro⟨Z8,Zi,Zj,_,P⟩;exact P.elim;exact P.elim;rename_i Zh;rw[ZK,ai Zh] at G
  exact Zy _ _ G
 ·
  cases O with
  | zero=>
   unfold uD at U
   exact absurd (any_beq.1<|jW.1 U i<|by simpa using Zao) Zf
  | succ O=>
  unfold uD at U
  simp only[dK] at U
  obtain⟨⟨_,Zck⟩,Zr⟩:=U;obtain⟨s,Zav,Zcl⟩ : ∃s∈mL T,s.1=i:=by
   have ar:=jW.1 Zck i (by simpa using Zao)
   simp only[ny] at ar
   rcases ar with (ar | ar) | ar
   exact absurd (any_beq.1 ar) Zf;exact Of T ar;exfalso
   obtain⟨Zcm,_,ZL⟩:=List.any_eq_true.1 ar;simp only[dK,p4] at ZL
   have Zcn:=Gz Zw BT ZL.2
   rw[any_beq.2 (Zv Zcm Zcn)] at ZL
   exact absurd ZL.1 au
  subst Zcl;have Zr:=jW.1 Zr s Zav
  simp only[dK] at Zr
  obtain⟨⟨⟨Zaa,Zab⟩,Zac⟩,Zco⟩:=Zr;have Zk:g++fS (pre++[s])=(g++fS pre)++[s.1]++s.2.2:=by
   rw[Gy];simp[fS]
  have Zaw: ((g++fS pre)++[s.1]++s.2.2).Nodup:=by rw[<-Zk];exact yZ _ Zaa
  have ZM: ∀i∈s.1::s.2.2,rH c (g++fS (pre++[s])) i:=λi Zd=>BS<|jW.1 Zab i Zd
  have Zcp: ∀i∈g++fS (pre++[s]),rH c (g++fS (pre++[s])) i:=by
   intro l d;rw[Zk] at d
   rcases dq.1 d with d | d
   rcases dq.1 d with d | d
   rw[Zk,ec];exact (ZE l d).oG d _;exact ZM l (by simp at d;simp[d]);exact ZM l (by simp[d])
  obtain⟨Zo,J,Z1⟩:=ZM s.1 au;rw[V] at J
  simp only[ek] at J
  subst J;have Zcq:c.getD s.1 default=af:=by simp[List.getD,V]
  have Zax:=ZH s Zav
  rw[Zcq] at Zax
  have Zx: ∀t∈af.looksAt c.toArray,o.tmps[t]? = y.tmps[t]? :=by
   intro t j;rw[Zar t j];cases r:writer c t with
   | none=>exact Y t (by simp[r])
   | some p=>
    simp only;have E:=Z1 t j p r
    rw[Zk,ec,ul] at E
    by_cases N:p<s.1
    rw[aB N];rw[ai N];refine Y t λl d Zc=>?_
    rw[r] at d
    obtain rfl:=lw d;have:=E.2 N
    rw[(BR _ Zf).2 Zc] at this
    cases this
  have Z2: ∀x∈af.op.operands,o.eval x=y.eval x:=by
   intro x A;cases x with
   | tmp t=>
    have j:t∈af.looksAt c.toArray:=by
     unfold Oper.looksAt;refine p7 _<|List.mem_filterMap.2 ⟨.tmp t,by simpa using A,rfl⟩
    simp only[Act.eval,k5,Zx t j]
   | _=>rfl
  have Z3:=execOp_congr af Zap Z2
  have ZK:Region.wanted af (yielded c.toArray o.tmps)=Region.wanted af (yielded c.toArray y.tmps):=by
   unfold Region.wanted;cases Z4:af.guard with
   | none=>rfl
   | some Z5=>
    obtain⟨p,Zcd⟩:=Z5;simp only;congr 1
    unfold yielded;cases Z6: (c.toArray[p]?).bind (·.dst) with
    | none=>rfl
    | some t=>
     have j:t∈af.looksAt c.toArray:=by
      unfold Oper.looksAt;refine wr _ ?_;simp only[Z4,Z6];simp
     simp only[sN,Zx t j]
  have Zcr:s.2.1=true-> ∀n∈g++fS pre,q n=true:=by
   intro Zb n K;rw[Zb] at Zac
   simp only[Bool.not_true,Bool.false_or] at Zac
   have:=jW.1 Zac n K
   simp only[ny] at this
   rcases this with ar | ar
   obtain⟨Zay,Zcs,M⟩:=List.any_eq_true.1 ar;rw[<-gX M];exact ZG Zay Zcs;exact Gz Zw BT ar
  have Zy: ∀z I,qe e (sX λZct I=>(s.2.1=true\/X I)/\ ∃Q:World->Prop,Q I/\ie f e c.toArray Q (λZs=>kE f e c D O (mM s.1 T) (λx=>(s.2.1=true\/X x)/\Q x) Zs λx=>x=I) (s.2.2.map λn=>c.getD n default) Zct) .normal (o.put af.dst z) I->
   ZU (λk=>q k || k == s.1) (y.put af.dst z) I:=by
   rintro z I ⟨Zdu,Zcu,Zcv,Zaz,Zcw,Zcx⟩;have W: ∀t,writer c t≠some s.1->(o.put af.dst z).tmps[t]? = o.tmps[t]? :=by
    intro t j;cases u:af.dst with
    | none=>rfl
    | some m=>
     simp only[Act.put];refine wo λb=>?_
     subst b;exact j (ZI m u).2
   have Zba: ∀t,writer c t≠some s.1->(y.put af.dst z).tmps[t]? = y.tmps[t]? :=by
    intro t j;cases u:af.dst with
    | none=>rfl
    | some m=>
     simp only[Act.put];refine wo λb=>?_
     subst b;exact j (ZI m u).2
   have Zcy: ∀t,writer c t=some s.1->(y.put af.dst z).tmps[t]? = (o.put af.dst z).tmps[t]? :=by
    intro t j;obtain⟨x,A,Zq⟩:=ZT t s.1 j;rw[V] at A
    simp only[ek] at A
    subst A;have Zcz:=(ZI t Zq).1
    rw[Zq];simp[Act.put,Zl,Zu.size,Zcz]
   have Zda:wM c a ((g++fS pre)++[s.1]) (o.put af.dst z):=by
    intro t j;rw[W t λb=>j s.1 b au];exact Y t λl d Zc=>j l d (by simp only[dq];exact .inl<|dq.1 Zc)
   let Zad:World->Prop:=λx=>(s.2.1=true\/X x)/\Zaz x
   have Zdb:uE f e c a (λk=>q k || k == s.1) Zad ((g++fS pre)++[s.1]) (o.put af.dst z):=by
    intro n K Za;simp only[Bool.or_eq_false_iff] at Za
    have Zbb:n≠s.1:=by simpa using Za.2
    have Zae:n∈g++fS pre:=by
     rcases dq.1 K with h | h
     exact h;exact absurd (by simpa using h) Zbb
    obtain⟨Zbc,ZY,Zg,m,v,J,Zbd,Zdc,Zdd,Zde,Zdf⟩:=Zn n Zae Za.1;refine⟨Zbc,ZY,Zg,m,v,J,Zbd,Zdc,?_,λR ZB=>?_,λt j=>?_⟩;rw[W m λb=>by rw[(Zt n Zbc m J Zbd).2] at b;exact Zbb<|lw b];exact Zdd
    rcases ZB.1 with Zb | Zb
    have:=Zcr Zb n Zae
    rw[Za.1] at this;cases this
    exact Zde R Zb;rw[Zdf t j];cases r:writer c t with
    | none=>rfl
    | some l=>
     simp only;rw[BQ _ Zae];by_cases E:l3 (g++fS pre) l n=true
     rw[aB E,aB E,W t λb=>by rw[r] at b;exact Zf<|lw b▸Gx E];rw[ai E,ai E]
   obtain⟨Zbe,Zs,Zdg,Zdh,Zdi,Zdj,Zdk⟩:=GA (D:=λk=>q k || k == s.1) (a0:=a) (HBa:=Zad) (HB:=Zaz) Zt (λ_ h=>h.2) s.2.2 _ _ _ Zaw (λn K=>let ⟨_,C,_⟩:=ZM n (by simp[K]);(cH.1 C).1) Zcu Zda Zdb Zcx;have Zbf: ∀l,(q l || l == s.1)=true->l∈(g++fS pre)++[s.1]:=by
    intro l d;simp only[ny,beq_iff_eq] at d
    rcases d with d | rfl
    exact p7 _<|Zv l d;exact wr _ au
   refine⟨O,pre++[s],mM s.1 T,Zbe,Zad,Zs,Zco,Zcp,by cases af.dst <;> simp[Act.put,Zl],by cases af.dst <;> simp[Act.put,ZF],Zdg,λl d=>?_,λZbg Zdl=>?_,Zaq,λt=>?_,?_,?_,⟨Zcv,Zcw⟩,Zdh⟩;rw[Zk];exact p7 _<|Zbf l d;rcases dq.1 Zdl with h | h
   simp[ZG Zbg h]
   obtain rfl:Zbg=s:=by simpa using h
   simp
   cases r:writer c t with
   | none=>
    simp only;rw[Zba t (by rw[r];simp),Zm t,r]
   | some l=>
    simp only;have Zbh: (q l || l == s.1)=true->Zbe.tmps[t]? = (o.put af.dst z).tmps[t]? :=by
     intro d;refine Zdk t λZdv Zbi Zc=>?_
     rw[r] at Zbi
     obtain rfl:=lw Zbi;exact (gO.1 Zaw).2.2 _ (Zbf l d) _ Zc rfl
    by_cases Zaf:l=s.1
    subst Zaf;rw[Zcy t r,aB au,Zbh au];have Zz:writer c t≠some s.1:=by rw[r];exact λb=>Zaf<|lw b
    have Z0: (l == s.1)=false:=by simpa using Zaf
    rw[Zba t Zz,Zm t,r];simp only[Z0,Bool.or_false];by_cases ZA:q l=true
    rw[aB ZA,aB ZA,Zbh<|by simp[ZA],W t Zz];rw[ai ZA,ai ZA]
   rw[Zk];exact Zdi
   rw[Zk];exact Zdj
  have G:wpList f c.toArray _ [af] o S:=Zax S rfl o Zu
  unfold wpList at G
  rw[ZK] at G
  split at G
  rename_i Zh;rw[aB Zh];rcases G with G | ⟨_,Z8,Zi,Zj,_,P⟩
  refine .inl<|FZ Z3 (λz I Zdm=>Zy z I Zdm) ?_ ?_ ?_ G;rintro Zci v0 Zi ⟨Zj,Z9,_⟩;have:=Z9.qd
  cases u:af.dst <;> rw[u] at this <;> simp[Act.put] at this
  rintro Zcj Zi ⟨Zj,_,P⟩;exact P.elim;rintro⟨Z8,Zi,Zj,_,P⟩;exact P.elim;exact P.elim;rename_i Zh;rw[ai Zh];exact Zy _ _ G
 rintro q y S Zdn ⟨O,pre,T,o,X,Ze,U,ZE,Zl,ZF,Zu,Zv,ZG,Zw,Zm,Y,Zn,ZW,ZH⟩;have Zbj: ∀i,i<c.length->q i=true:=λi Zd=>Zdn i (by simpa using Zd)
 have Zdo: ∀(t:Nat),y.tmps[t]? = o.tmps[t]? :=by
  intro t;rw[Zm t];cases r:writer c t with
  | none=>exact (Y t<|by simp[r]).symm
  | some i=>
   obtain⟨x,A,_⟩:=ZT t i r;simp only;rw[aB (Zbj i (cH.1 A).1)]
 have Zdp:hn e Ze y:=⟨Zl,ZF,λt v ZZ=>by rw[Zdo t];exact Zu.val t v ZZ⟩
 cases O with
 | zero=>exact⟨Ze,Zdp,ZH S rfl⟩
 | succ O=>
  exfalso
  unfold uD at U
  simp only[dK] at U
  obtain⟨⟨Zz,_⟩,Zr⟩:=U;cases Zb:mL T with
  | nil=>rw[Zb] at Zz;cases Zz
  | cons s Zay=>
   have B:=jW.1 Zr s (by rw[Zb];simp)
   simp only[dK] at B
   obtain⟨⟨⟨Zaa,Zab⟩,_⟩,_⟩:=B;obtain⟨af,C,_⟩:=BS<|jW.1 Zab s.1 au;have Zdq:=Zv s.1<|Zbj _ (cH.1 C).1
   have Zbk:=yZ _ Zaa
   rw[Gy,<-ec,gO] at Zbk
   exact Zbk.2.2 _ Zdq s.1 (by simp[fS]) rfl
 intro i af C b M E;obtain⟨_,_,Zn,_⟩:=ZR i af (by simpa using C);exact Zn b M E;have Zag: ∀k,(Array.replicate c.toArray.size false).getD k false=false:=by
  intro k;simp only[k5,Array.getElem?_replicate];split <;> rfl
 refine⟨ZN,[],ZO,Zbt,Q,Zbu,Zbp,by simpa [fS] using Zak,ZQ.size,ZQ.qd,Zbv,λi Zd=>absurd ((Zag i).symm.trans Zd) au,λs w=>by simp at w,λk af _ L=>absurd ((Zag k).symm.trans L) au,λt=>?_,by simpa [fS] using Zal,?_,Zbl _<|Zah R ZB,Gv _ Zbw λx A=>A▸Zah R ZB⟩;cases writer c t with
 | none=>rfl
 | some i=>simp only[Zag];rfl
 rw[show g++fS []=g by simp[fS]];exact λn K Za=>Zam n K rfl
def uF{n m:Nat}(a:m<2 ^ n): (BitVec.ofInt n (m:Int)).toNat=m:=by
 rw[BitVec.ofInt_natCast,BitVec.toNat_ofNat,qb a]
def mN{z:Int}(a:0<=z)(b:z<256):IntKind.u8.wrap z=z:=by simp[IntKind.wrap,IntKind.bits,IntKind.signed];omega
def y0{z:Int}(a:0<=z)(b:z<4294967296):IntKind.u32.wrap z=z:=by simp[IntKind.wrap,IntKind.bits,IntKind.signed];omega
def nG{z:Int}(a: -2147483648<=z)(b:z<2147483648):IntKind.i32.wrap z=z:=by simp[IntKind.wrap,IntKind.bits,IntKind.signed];omega
def and_eq{k:IntKind}{a b:Int}{m n:Nat}{r:Int}(c:a=m)(d:b=n)(e:m<2 ^ k.bits)(f:n<2 ^ k.bits)(g:k.wrap ((m &&& n:Nat):Int)=r):k.wrap ((BitVec.ofInt k.bits a &&& BitVec.ofInt k.bits b).toNat:Int)=r:=by
 subst c d;rw[BitVec.toNat_and,uF e,uF f,g]
def or_eq{k:IntKind}{a b:Int}{m n:Nat}{r:Int}(c:a=m)(d:b=n)(e:m<2 ^ k.bits)(f:n<2 ^ k.bits)(g:k.wrap ((m ||| n:Nat):Int)=r):k.wrap ((BitVec.ofInt k.bits a ||| BitVec.ofInt k.bits b).toNat:Int)=r:=by
 subst c d;rw[BitVec.toNat_or,uF e,uF f,g]
def BU{k:IntKind}{a b:Int}{m n:Nat}{r:Int}(c:a=m)(d:b=n)(e:m<2 ^ k.bits)(f:n<2 ^ k.bits)(g:k.wrap ((m &&& (2 ^ k.bits - 1 - n):Nat):Int)=r):k.wrap ((BitVec.ofInt k.bits a &&& ~~~ BitVec.ofInt k.bits b).toNat:Int)=r:=by
 subst c d;rw[BitVec.toNat_and,BitVec.toNat_not,uF e,uF f,g]
section
variable {H:World->Prop}{cS et:TypeId}{x y:Operand}{k aN:IntKind}{a b r:Int}
def rI(e:Nat.blt d n=true)(f:bi l x=some (.int k a))(g:bi l y=some (.int k b))(h:k.wrap ((BitVec.ofInt k.bits a &&& BitVec.ofInt k.bits b).toNat:Int)=r)
 (i:aM P n ops Q rest ((d,.int k r)::l) H):aM P n ops Q (⟨some d,.binOp .and cS x y et,ty,pos,bf,none⟩::rest) l H:=
 dB _ e (λm o c=>by
  have j:binOp .and cS (.int k a) (.int k b)=pure (.int k r):=by
   rw[binOp_and,<-h];rfl
  simp only[execOp,c x _ f,c y _ g,eqGuard,j];simp[Sem.run_pure,Result.andThen]) i
def mO(e:Nat.blt d n=true)(f:bi l x=some (.int k a))(g:bi l y=some (.int k b))(h:k.wrap ((BitVec.ofInt k.bits a ||| BitVec.ofInt k.bits b).toNat:Int)=r)
 (i:aM P n ops Q rest ((d,.int k r)::l) H):aM P n ops Q (⟨some d,.binOp .or cS x y et,ty,pos,bf,none⟩::rest) l H:=
 dB _ e (λm o c=>by
  have j:binOp .or cS (.int k a) (.int k b)=pure (.int k r):=by
   rw[binOp_or,<-h];rfl
  simp only[execOp,c x _ f,c y _ g,eqGuard,j];simp[Sem.run_pure,Result.andThen]) i
def uG(e:Nat.blt d n=true)(f:bi l x=some (.int k a))(g:bi l y=some (.int k b))(h:k.wrap ((BitVec.ofInt k.bits a &&& ~~~ BitVec.ofInt k.bits b).toNat:Int)=r)
 (i:aM P n ops Q rest ((d,.int k r)::l) H):aM P n ops Q (⟨some d,.binOp .andNot cS x y et,ty,pos,bf,none⟩::rest) l H:=
 dB _ e (λm o c=>by
  have j:binOp .andNot cS (.int k a) (.int k b)=pure (.int k r):=by
   rw[binOp_andNot,<-h];rfl
  simp only[execOp,c x _ f,c y _ g,eqGuard,j];simp[Sem.run_pure,Result.andThen]) i
def rJ(e:Nat.blt d n=true)(f:bi l x=some (.int k a))(g:bi l y=some (.int aN b))(h:0<=b)(i:a/2 ^ min b.toNat k.bits=r)
 (j:aM P n ops Q rest ((d,.int k r)::l) H):aM P n ops Q (⟨some d,.binOp .shr cS x y et,ty,pos,bf,none⟩::rest) l H:=
 dB _ e (λm o c=>by simp[execOp,c x _ f,c y _ g,eqGuard,binOp,shift_shr_any k aN a b h,i]) j
def pj(e:Nat.blt d n=true)(f:bi l x=some (.int k a))(g:bi l y=some (.int aN b))(m:0<=b)(h:k.wrap (a*2 ^ min b.toNat k.bits)=r)
 (i:aM P n ops Q rest ((d,.int k r)::l) H):aM P n ops Q (⟨some d,.binOp .shl cS x y et,ty,pos,bf,none⟩::rest) l H:=
 dB _ e (λo p c=>by
  have j: ¬b<0:=by omega
  simp[execOp,c x _ f,c y _ g,eqGuard,binOp,Op.shift,j,h]) i
def cI:b1 UInt8:=⟨λa=>[.int .u8 (a.toNat:Int)],1,λ_=>rfl,λ_=>by repeat (first | exact aV.nil | refine aV.cons rfl ?_)⟩
def GB: ∀(b:List UInt8)(a:ByteArray),(b.map λc=>(c.toNat:Int)).foldl (λr n=>r.push<|UInt8.ofNat n.toNat) a=a++bs b
 | [],a=>by simp[bs,ByteArray.ext_iff]
 | c::b,a=>by
  rw[ku,ui,GB b];have d:UInt8.ofNat (c.toNat:Int).toNat=c:=by simp
  rw[d];apply ByteArray.ext
  simp[bs,ByteArray.push]
def kF{H:World->Prop}{f g:TypeId}{F:Nat->Prop}{s:List UInt8}(o:P.underlying I=some (.slice g))(p:P.underlying g=some (.int .u8))(q:P.underlying f=some .string)(r:Nat.blt d n=true)(t:bi l x=some (.slice Z e E))
 (u: ∀w,H w->Rd cI w F Z e E s)
 (v:aM P n ops Q rest ((d,bU s)::l) H):aM P n ops Q (⟨some d,.convert I f x,ty,pos,bf,none⟩::rest) l H:=
 uv _ r (λD w y z=>by
  have k:=u w z
  have m:=k.len
  simp only[execOp,y x _ t];rw[Sem.run_bind,run_convert_bytes_string w I f g Z e E o p q];by_cases A:e=0
  subst A;have:s=[]:=jX m
  subst this;cases Z with
  | none=>simp[Conv.bytesToString,Result.andThen,Sem.run_pure];rfl
  | some a=>
   have h: (loadCells a 0).run P w= .ok (([]:List Int).map<|Value.int .u8).toArray w:=by
    have:=run_loadCellsFrom (P:=P) (w:=w) (p:=a) [] 0 #[] (λi B c=>by simp at c)
    simpa [loadCells] using this
   rw[run_bytesToString w a 0 E [] h];simp[Result.andThen,Sem.run_pure]
   rfl
  obtain⟨a,rfl,_,C⟩:=k.cells aa;have h: (loadCells a e).run P w= .ok ((s.map λE=>(E.toNat:Int)).map<|Value.int .u8).toArray w:=by
   have:=run_loadCellsFrom (P:=P) (w:=w) (p:=a) (s.map λE=>Value.int .u8 (E.toNat:Int)) 0 #[] (λi B c=>by
    rw[fw] at c
    cases j:s[i]? with
    | none=>rw[j] at c;simp at c
    | some b=>
     rw[j] at c
     simp only[o_,ek] at c
     subst c;have:=C i b 0 (.int .u8 (b.toNat:Int)) j rfl
     simpa [cI,Addr.add] using this)
   rw[o8];simpa [loadCells,m,Function.comp_def] using this
  rw[run_bytesToString w a e E _ h,GB];have:ByteArray.empty++bs s=bs s:=by apply ByteArray.ext;simp[bs]
  rw[this];simp[Result.andThen,Sem.run_pure]) v
def GC{H:World->Prop}(c:Nat.blt d n=true)(e:db l u=some t)
 (f: ∀a,H a->(callFunc J t.toArray).run P a= .ok (.value C) a)
 (g:aM P n ops Q rest ((d,C)::l) H):aM P n ops Q (⟨some d,.call ⟨.value<|.func J,u.toArray,v⟩,ty,pos,bf,none⟩::rest) l H:=
 uv C c (λh a b i=>by
  have:=f a i
  have j:h (.func J)= .func (.func J) #[] #[]:=b (.func J) _ rfl
  simp[execOp,resolve,j,Deferred.ofValue,invoke,b.list _ _ e,this]) g
def lA{f:FuncId}{H:World->Prop}
 (g: ∀a,H a->Calls P f t.toArray a λb c=>b= .returned C/\c=a)
 (h:aM P n ops Q rest ((d,C)::l) H) (i:db l u=some t:=by exact rfl) (j:Nat.blt d n=true:=by exact rfl) (k:dX P f:=by exact cL):aM P n ops Q (⟨some d,.call ⟨.value<|.func f,u.toArray,v⟩,ty,pos,bf,none⟩::rest) l H:=by
 refine iw rfl (hd:=j) (hcb:=k) (hargs:=i) λa e=>?_
 have:=g a e
 simp only[jV,kr];refine this.mono ?_;rintro b c ⟨rfl,rfl⟩;exact⟨C,rfl,h.at e⟩
def uH{e:Array TypeId}{f:FuncId}{v:Value}{H H':World->Prop}
 (g: ∀a,H a->Calls P f t.toArray a λb c=>b= .returned v/\H' c)
 (h:aM P n ops Q rest ((d,v)::l) H') (hargs:db l u=some t:=by exact rfl) (i:Nat.blt d n=true:=by exact rfl) (j:dX P f:=by exact cL):aM P n ops Q (⟨some d,.call ⟨.value<|.func f,u.toArray,e⟩,ty,pos,bf,none⟩::rest) l H:=by
 refine iw rfl (hd:=i) (hcb:=j) (hargs:=hargs) λa k=>?_
 have:=g a k
 simp only[jV,kr];refine this.mono ?_;rintro b c ⟨rfl,m⟩;exact⟨v,rfl,h.at m⟩
def BV{b:Operand}{h:Array TypeId}{f:FuncId}{v:Value}{H H':World->Prop}{first c:Array Value}(i:bi l b=some (.func (.func f) first c))
 (j: ∀a,H a->Calls P f (first++t.toArray++c) a λe g=>e= .returned v/\H' g)
 (k:aM P n ops Q rest ((d,v)::l) H') (hargs:db l u=some t:=by exact rfl) (hd:Nat.blt d n=true:=by exact rfl) (hcb:dX P f:=by exact cL):aM P n ops Q (⟨some d,.call ⟨.value b,u.toArray,h⟩,ty,pos,bf,none⟩::rest) l H:=by
 refine iw i (hd:=hd) (hcb:=hcb) (hargs:=hargs) λa m=>?_
 refine (j a m).mono ?_;rintro e g ⟨rfl,o⟩;exact⟨v,rfl,k.at o⟩
end
def Og{P:Program}{a:Func}(d:P.funcs[J]? = some a)(e: (a.name == "runtime.NumGoroutine")=false)(f:a.body.isNone=true)(g:Extern.findNext a=none)(h:Extern.find a=some Extern.BytealgIndexByte.indexByte)(b:List UInt8)(c:UInt8)(w:World):
 (callFunc J [Value.string (bs b),.int .u8 (c.toNat:Int)].toArray).run P w= .ok (.value<|ad<|Lib.indexByte b c) w:=by
 rw[run_callFunc_extern d e f g h];have:=Lib.run_indexByteString (P:=P) (bs b) (c.toNat:Int) w
 rw[show [Value.string (bs b),Value.int .u8 (c.toNat:Int)].toArray= #[Value.string (bs b),Value.int .u8 (c.toNat:Int)] from rfl,this];have i: (c.toNat:Int).toNat.toUInt8=c:=by simp
 simp[Result.andThen,i]
section
variable {H:World->Prop}{x i:Operand}{k:IntKind}{j:Int}
def nH{b q:Nat}{a:Value}(g:P.underlying e=some (.array b E))(c:dm P E C)(h:Nat.blt d n=true)(m:bi l x=some (.agg t.toArray))(o:bi l i=some (.int k j))(p:j=(q:Int))(r:q<b)(s:t[q]? = some a)
 (u:aM P n ops Q rest ((d,a)::l) H):aM P n ops Q (⟨some d,.index e x i,ty,pos,bf,none⟩::rest) l H:=by
 subst p;obtain⟨D,v,y⟩:=c.gf;obtain⟨F,z,G,A⟩:=c.inf;refine dB _ h (λI w f=>?_) u;have B: (Instr.index e (.agg t.toArray)<|.int k (q:Int)).run P w= .ok a w:=by
  simp[Instr.index,asIntOf,run_underlying g,r,run_sizeOf z,A,part,qg v,y,s]
 simp[execOp,f x _ m,f i _ o,B]
