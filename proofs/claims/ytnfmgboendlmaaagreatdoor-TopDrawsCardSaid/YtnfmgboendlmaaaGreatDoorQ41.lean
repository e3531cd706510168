/- part 41 of the proof -/
import Derived.Test.YtnfmgboendlmaaaGreatDoorQ40
import Derived.RangeFuncRecord
import Derived.RangeFuncSeq
import Derived.TacticsIn
set_option linter.all false
namespace Go.Proofs.YtnfmgboendlmaaaGreatDoor.Mq
open RowKit Tryz
variable {P:Program}{n d:Nat}{ops:Array Oper}{Q:cN}{rest:List Oper}{l:Fr}{ty:TypeId}{pos:String}{bf:Array Edge}
variable [Inhabited vP]{t:Act}{V:Array Edge}{N:Array Oper}{j:Exit->Act->World->Prop}{S:Fr}{i:Int}{A c u:List Chunk}{g:List Nat}{R:List Oper}{W:List Value}{e z:Nat}{X:Obj}{y:Oper}{m:Operand}{B:Option Addr}{Z:Option Nat}{M:Program}{U:String}{r:Type}{T:TypeId}{v:Value}{h w:World}{O:cN}{p:cm}{C:dp}(f:World)(q:cA)(K:gd)(Y:Option Nat)(o:cm)(D:Int)(G:Nat->Prop)(L:List bq)(I:Option Addr)(J:Nat)
def MR{E:b1 r}{l2:List Chunk}{e:TypeId}{b:Nat}{L:List r}(f:ag h g c w)(i:bH c (aD e E B b L) u)(j:aP u l2 A):Rd E w (λa=>a∉aK l2) B L.length b L:=by
 have k:=f.perm i.perm
 have l: ∀a,a∈aK [aD e E B b L]->a∉aK l2:=λa d=>f.wh (aP.cons i aP.nil) j d
 obtain⟨q,s,m,n⟩:=Rd.ho (E:=E) (show w.ownsRow 0 e E.ax (.slice B L.length b) L.length (E.all L) from k.has Has.head) rfl;injection m with o _ p
 subst o p;exact n.d8 λa d=>l a (by rw[show aK [aD e E B b L]=(aD e E B b L).cT by simp[aK]];exact kx.2 d)
def MS{E:b1 r}{a d l2:List Chunk}{e:TypeId}{A:Option Addr}{c:Nat}{L:List r}(f:ag h g a w)(i:bH a (aD e E A c L) u)(j:bH u (aZ l2) d):Rd E w (λb=>b∉aK l2) A L.length c L:=
 (MR f i<|aP.cons j aP.nil).d8 (λb k=>by rwa [show aK [aZ l2]=aK l2 by simp[aK,aZ]] at k)
def MT(a:gW C i): (x6 C.abs.blocks).length<=40000:=by
 have c:=a.len
 have b:=LJ a.bV C.l.length
 rw[um] at b
 show (x6<|C.l.map bn.abs).length<=_
 rw[LI];omega
def aak(A:dn o e i)(E:bc f [cl o])(s t:Int)(F: ¬((1<=s/\s<=1000)/\2<=t/\t<=1000)):ay 25 [ptr o.g,ad s,ad t] f (aX (λ_:Unit=>ad 1) [cl o] (λ_=>[cl o]) (λ_=>True) f):=by
 obtain⟨k,m,n,d,a,h,b,j,p,q,r⟩:=o;have u:=A.st
 have v:=A.dv
 dsimp only at u v
 have K:=u.len
 have G:=MT u
 have L:=v.len
 have M:=v.most
 refine calls (n:=57) func25 rfl ntmps25 rfl ?_;refine dh (H':=ag f (aK [cl ⟨k,m,n,d,a,h,b,j,p,q,r⟩])<|dl ⟨k,m,n,d,a,h,b,j,p,q,r⟩) ?_ (Sub.refl _) (λB w=>by have c:=(E.start B w).open (l:=dl ⟨k,m,n,d,a,h,b,j,p,q,r⟩) bx;rwa [eZ] at c);refine lb ?_;refine bK (l0:=[]) aP.nil (hargs:=rfl) (λx y=>EU x b ((y.has (c:=aZ<|du b) cW) _ au) ((y.has (c:=aZ<|du b) cW) _ au) ((y.has (c:=aZ<|du b) cW) _ au) u.bV aa) λC H=>a7 ?_;have N:C.l.length<=40000:=by rw[H];exact G
 refine aU ?_;refine fg [0,1,2,3,4,5,6,7,8,9,10] 3 [[(11,false,[]),(12,false,[]),(13,true,[14,15,16,17,18])]] (_) mixed ak (λ_ z=>z.drew) (λ_ c=>(show ag _ _ [cm.aq ⟨k,m,n,d,a,h,b,j,p,q,r⟩] _ from c.aF ah))<|cn ?_;refine dE (λx I=>Calls.mono (Lj x j I.k2 v) λO P c=>aX.star c) λD J=>?_;refine cv (λ_=>True) (λ_ c=> .inr<|c.aF ah) (λ_ c=>bh)<|aA ?_;have Q:D.l.length<=10000:=by rw[J];omega
 refine iL (H':=ag f (aK [cl ⟨k,m,n,d,a,h,b,j,p,q,r⟩])<|D.aD::C.aD::dl ⟨k,m,n,d,a,h,b,j,p,q,r⟩) (fu (E:=c1) eR rfl rfl rfl bx (λ_ _=>cJ) cg aa λR S=>cv (λ_=>True) (λ_ c=> .inr ⟨.inr<|c.aF ah,dC⟩) (λ_ c=>bh)<|aA ?_) (Sub.refl _) λB w=>w.Bi.aF ah;refine la (lc:=fl a d a.g h) pm<| (dg) (aai · d a.g eS h · s t F _) λ_ _=>?_
 refine oI ?_;exact λT z=>aX.cf () bh rfl<|((z.close (l:=fl a d a.g h) ah).close (l:=dl ⟨k,m,n,d,a,h,b,j,p,q,r⟩) ah).aF ah
def aal{N:Int}(C:dn o e N)(V:bc f [cl o])(Zi:e<=1440000000000)(Zj:N<=800000000000000)(I:Int)(J:Nat)(W:1<=I/\I<=30)(E:2<=J/\J<=40):ay 25 [ptr o.g,ad I,ad (J:Int)] f (aX (λ_:cm=>z0) [cl o] (λa=>[cl a]) (λa=>a.g=o.g/\dn a (e+1) (N+(e+1 :Nat))/\a.az.r.room=o.az.r.room) f):=by
 obtain⟨k,m,n,d,b,u,h,i,p,q,s⟩:=o;have F:=C.st
 have G:=C.dv
 dsimp only at F G
 have Zk:=F.len
 have X:=MT F
 have Zl:=G.len
 have Zm:=G.most
 refine calls (n:=57) func25 rfl ntmps25 rfl ?_;refine dh (H':=ag f (aK [cl ⟨k,m,n,d,b,u,h,i,p,q,s⟩])<|dl ⟨k,m,n,d,b,u,h,i,p,q,s⟩) ?_ (Sub.refl _) (λH y=>by have j:=(V.start H y).open (l:=dl ⟨k,m,n,d,b,u,h,i,p,q,s⟩) bx;rwa [eZ] at j);have P:=C.Fc rfl
 dsimp only at P
 refine lb ?_;refine bK (l0:=[]) aP.nil (hargs:=rfl) (λw E=>EU w h ((E.has (c:=aZ<|du h) cW) _ au) ((E.has (c:=aZ<|du h) cW) _ au) ((E.has (c:=aZ<|du h) cW) _ au) F.bV aa) λB Y=>a7 ?_;have Zn:B.l.length<=40000:=by rw[Y];exact X
 refine aU ?_;refine fg [0,1,2,3,4,5,6,7,8,9,10] 3 [[(11,false,[]),(12,false,[]),(13,true,[14,15,16,17,18])]] (_) mixed ak (λ_ Z=>Z.drew) (λ_ j=>(show ag _ _ [cm.aq ⟨k,m,n,d,b,u,h,i,p,q,s⟩] _ from j.aF ah))<|cn ?_;refine dE (λw v=>Calls.mono (Lj w i v.k2 G) λQ R j=>aX.star j) λK Za=>?_;refine cv (λ_=>True) (λ_ j=> .inr<|j.aF ah) (λ_ j=>bh)<|aA ?_;have Zo:K.l.length<=10000:=by rw[Za];omega
 refine iL (H':=ag f (aK [cl ⟨k,m,n,d,b,u,h,i,p,q,s⟩])<|K.aD::B.aD::dl ⟨k,m,n,d,b,u,h,i,p,q,s⟩) (fu (E:=c1) eR rfl rfl rfl bx (λ_ _=>cJ) cg aa λZp Zq=>cv (λ_=>True) (λ_ j=> .inr ⟨.inr<|j.aF ah,dC⟩) (λ_ j=>bh)<|aA ?_) (Sub.refl _) λH y=>y.Bi.aF ah;refine la (lc:=fl b d b.g u) pm<| bK (l0:=b0 d b.g eS u) ah (hargs:=rfl) (λw v=>aaj w d b.g eS u (v.cb ah) P I J W E _ _ _ _ _ (MR (E:=c1) (e:=44) (L:=B.l++K.l) (l2:=b0 d b.g eS u) v BZ ah) (λ_ j=>j)<|by rw[b3];omega) λ⟨t,z⟩ L=>?_
 refine ft ?_;obtain⟨x,S⟩:=L;dsimp only at x S
 rw[b3] at S
 refine ap ?_;refine dh (H':=ag f (aK [cl ⟨k,m,n,d,b,u,h,i,p,q,s⟩])<|t.aD::dl ⟨k,m,n,d,b,z,h,i,p,q,s⟩) (jd (e:=44) (sz:=2) (v:= .slice t.A t.l.length t.c) bw λZr Zs Zb Zt _ _ _=>?_) (Sub.refl _) λH y=>(y.close (l:=fl b d b.g z) ah).aF ah;injection Zb with Zc _ Zd
 subst Zc Zd;refine bN [0,1,2,3,4,5,6] 1 [[(7,true,[])]] ?_;refine aH ?_;refine aO rfl (λZe L=>(gp 0 B.l.length eR rfl rfl (.inr ⟨rfl,rfl⟩) (.inl ⟨_,_,rfl,rfl,rfl⟩) aa bL aJ))<|aA ?_;refine bK (l0:=[aZ (du h)]) (v:=λa:Int × dp=>ad a.1) (l':=λa=>[aZ (du a.2)]) (ok:=λa=>a.2.g=h.g/\a.2.most=h.most/\gW a.2 N) ah (hargs:=rfl) (λw v=>Calls.mono (XD w h (v.cb ah).k2 F _ _ _ _ (((MS (E:=c1) (e:=44) (A:=t.A) (c:=t.c) (L:=t.l) (l2:=du h) v bx pm).cut (p:=1) (q:=t.l.length) aa<|cC _).cut (p:=0) (q:=B.l.length) aa aa) aa) λQ R j=>aX.star j) λa T=>aI ?_;refine dh (H':=ag f (aK [cl ⟨k,m,n,d,b,u,h,i,p,q,s⟩])<|t.aD::dl ⟨k,m,n,d,b,z,a.2,i,p,q,s⟩) ?_ (Sub.refl _) (λH y=>by have M:a.2.g=h.g:=T.1;simp only[dl,cm.aq,wc,M];exact y.aF ah);refine bN [0,1,2,3,4,5,6] 1 [[(7,true,[])]] ?_;refine aH ?_;refine aO rfl (λZe L=>(gp B.l.length (t.l.length - 1) eR rfl rfl (.inl ⟨_,_,rfl,rfl,rfl⟩) (.inr ⟨rfl,rfl⟩) aa bL aJ))<|aA ?_;refine bK (l0:=[aZ (gM i)]) (v:=λa:Int × iY=>ad a.1) (l':=λa=>[aZ (gM a.2)]) (ok:=λa=>x2 i a.2) ah (hargs:=rfl) (λw v=>Calls.mono (WK w i (v.cb ah).k2 G _ _ _ _ (((MS (E:=c1) (e:=44) (A:=t.A) (c:=t.c) (L:=t.l) (l2:=gM i) v bx qn).cut (p:=1) (q:=t.l.length) aa<|cC _).cut (p:=B.l.length) (q:=t.l.length - 1) aa aa) aa) λQ R j=>aX.star j) λD U=>aI ?_;refine dh (H':=ag f (aK [cl ⟨k,m,n,d,b,u,h,i,p,q,s⟩]) [cl ⟨k,m,n,d,b,z,a.2,D.2,p,q,s⟩]) ?_ (Sub.refl _) (λH y=>by have M:D.2.g=i.g:=U.g;have Zf:=y.aF (l:=dl ⟨k,m,n,d,b,z,a.2,D.2,p,q,s⟩) (by simp only[dl,cm.aq,wc,M];exact ah);exact (Zf.close (l:=dl ⟨k,m,n,d,b,z,a.2,D.2,p,q,s⟩) ah).aF ah);have Zg:dn ⟨k,m,n,d,b,z,a.2,D.2,p,q,s⟩ (e+1) N:=⟨C.par,⟨x.am,x.br,⟨rfl,x.room.2⟩,x.bt,x.cy,x.bu,x.buf,x.aQ,x.md⟩,T.2.2,U.ok,C.mp,C.top⟩
 refine aA ?_;refine bK (l0:=[cl ⟨k,m,n,d,b,z,a.2,D.2,p,q,s⟩]) ah (hargs:=rfl) (λw v=>Mz w _ Zg (v.cb ah) aa aa) λZh O=>a6 ?_;exact bT Zh ⟨O.g,O.ok,O.room.trans x.room.1⟩
def aam(a b c d:Int)(g:0<=D/\D<=255)(h:0<=a/\a<=255)(i:0<=b/\b<=255)(j:0<=c/\c<=255)(k:0<=d/\d<=255):ay 24 [.agg [.int .u8 D,.int .u8 a,.int .u8 b,.int .u8 c,.int .u8 d].toArray] f
 (Pure (.agg #[ad (1+D%10),ad<|2+a%20,ad<|b%20,ad<|1+c%9,ad<|1+d%9,ad 60]) f):=by
 refine ba func24 ntmps24 ?_;refine ap ?_;intro l m n;refine av ?_;intro o p q;refine aH ?_;refine pd rfl rfl rfl aa aa<|a7 ?_;refine pd rfl rfl rfl aa aa<|a7 ?_;refine pd rfl rfl rfl aa aa<|ap ?_;refine pd rfl rfl rfl aa aa<|a7 ?_;refine pd rfl rfl rfl aa aa<|aY ?_;exact λr e=>⟨rfl,e.ext⟩
def dn.mono{b:Int}(a:dn p e i)(c:e<=z)(d:i<=b):dn p z b:=⟨a.par,a.T.mono c,a.st.mono d,a.dv,a.mp,a.top⟩
def aan(d:dn o e i)(k:bc f [cl o])(m:e<=1440000000000)(n:i<=800000000000000)(c b:Int)(s: (c<=30\/1000<c)/\(b<=40\/1000<b)):ay 25 [ptr o.g,ad c,ad b] f (aX (λa:Int × cm=>ad a.1) [cl o] (λa=>[cl a.2]) (λa=>a.2.g=o.g/\dn a.2 (e+1) (i+(e+1 :Nat))) f):=by
 by_cases p: (1<=c/\c<=1000)/\2<=b/\b<=1000
 obtain⟨h,rfl⟩ : ∃h:Nat,b=(h:Int):=⟨b.toNat,aa⟩;exact Calls.mono (aal f o d k m n c h aa aa) λq r j=>j.mono λa l=>⟨(0,a),⟨l.1,l.2.1⟩,rfl,rfl⟩;exact Calls.mono (aak f o d k c b p) λq r j=>j.mono λa _=>⟨(1,o),⟨rfl,d.mono aa aa⟩,rfl,rfl⟩
def aao(d:dn o e i)(q:bc f [cl o])(G:e<=90000000000)(H:i<=700000000000000)(m c k:Int)(h:List UInt8)(I:h.length<=400)(r: -9223372036854775808<=c/\c<=9223372036854775807)(s:m=1->(c<=30\/1000<c)/\(k<=40\/1000<k)):ay 7 [ptr o.g,.agg [ad m,ad c,ad k,bU h].toArray] f
 (aX (λ_:cm=> .tuple #[]) [cl o] (λa=>[cl a]) (λa=>a.g=o.g/\dn a (e+8000000*h.length+1) (i+(e+8000000*h.length+1 :Nat))) f):=by
 refine bX func7 ntmps7 q ?_;refine ap ?_;intro J K L;refine (aE) (λt=>a7 ?_) λt=>?_
 ·refine Os.xO underlying9 underlying48 underlying5 rfl rfl aa λcu u M N v w=>?_
  refine bK (l0:=[cl o]) ah (λn l=>MB n o d (l.cb ah) aa aa (some ⟨cu,0,none⟩) h.length u h ((Os.Rd.xN (E:=cI) l (g:=cu) (e:=5) bw v w).d8 λm x=>by subst x;exact l.wh (l:=[Os.iW m 5 (cI.all h)]) (l2:=[cl o]) ah ah<|by simp[aK,Os.iW]) aa) λy p=>?_;refine ap ?_;exact bT y ⟨p.g,p.ok.mono aa aa⟩
 ·refine (aE) (λz=>aH ?_) λz=>?_
  ·refine (dg) (aan · o d · aa aa c k (s aa)) λj b=>ap ?_
   exact bT j.2 ⟨b.1,b.2.mono aa aa⟩
  ·refine (aE) (λA=>a7 ?_) λA=>?_
   ·refine dW rfl rfl underlying3 underlying63 rfl<|ap ?_
    refine bK (l0:=[cl o]) (v:=λa:Int × cm=>ad a.1) (l':=λa=>[cl a.2]) (ok:=λa=>a.2.g=o.g/\dn a.2 e i) ah (λn l=>YJ n o d (l.cb ah) _ _) λj b=>?_;refine ap ?_;exact bT j.2 ⟨b.1,b.2.mono aa aa⟩
   ·refine (aE) (λB=>aH ?_) λB=>?_
    ·refine dE (YI · o d · c k r) λj b=>?_
     refine ap ?_;exact bT j.2 ⟨b.1,b.2.mono aa aa⟩
    ·refine (aE) (λC=>a7 ?_) λC=>aH ?_
     ·refine dE (YG · o d · c) λj b=>?_
      refine ap ?_;exact bT j.2 ⟨b.1,b.2.mono aa aa⟩
     ·focus (refine (cj) (λD=>?_) λD=>?_;refine aH ?_;refine (dg) (YO · o d · h aa c) λO _=>?_;rotate_left;refine aH ?_;refine (cj) (λE=>?_) λE=>?_;refine a7 ?_;refine dW rfl rfl underlying3 underlying63 rfl<|aA ?_;refine (dg) (Mx · o d · _ k) λ_ _=>?_;all_goals (refine ap ?_;intro P F;exact eV o ⟨rfl,d.mono aa aa⟩ F))
def aap(j:bc f [eS])(b c d e h:Int)(k:0<=b/\b<=255)(l:0<=c/\c<=255)(m:0<=d/\d<=255)(n:0<=e/\e<=255)(o:0<=h/\h<=255):ay 6 [.agg [.int .u8 b,.int .u8 c,.int .u8 d,.int .u8 e,.int .u8 h].toArray] f
 (aX (λa:cm=>ptr a.g) [eS] (λa=>[cl a]) (dn · 0 0) f):=by
 refine bX func6 ntmps6 j ?_;refine ap ?_;intro s t u;refine aH ?_;refine bF (aam · b c d e h k l m n o)<|bK (l0:=[eS]) ah (hargs:=rfl) (λp q=>My p (q.cb ah) _ _ _ _ _ _ aa aa aa aa aa aa) λa r=>cZ ?_;refine (cj) (λi=>aY ?_) λi=>be ?_;exact λv w=>absurd i aW
 exact bT a r.ok
structure StepV where
 k:Int
 a:Int
 b:Int
 s:List UInt8
abbrev StepV.enc(c:StepV):List Value:=[ad c.k,ad c.a,ad c.b,bU c.s]
def EStep:b1 StepV:=⟨StepV.enc,4,λ_=>rfl,λ_=>by repeat (first | exact aV.nil | refine aV.cons rfl ?_)⟩
def jx(a:List StepV):Nat:=(a.map λb=>b.s.length).sum
variable {E:List StepV}{F:StepV}
def MU(a:E[e]? = some F):jx (E.take<|e+1)=jx (E.take e)+F.s.length:=by
 unfold jx;rw[hA,a];simp
abbrev wi(c:StepV):Prop:=c.k=1->(c.a<=30\/1000<c.a)/\(c.b<=40\/1000<c.b)
structure Fh (l:List StepV):Prop where
 len:l.length<=40
 sum:jx l<=400
 ok: ∀x∈l,wi x
def aaq{L:List StepV}(f:L.length=e)(b:i=(e:Int)+(jx (L.take z):Int))(a: ∀c∈L.take z,wi c)(d:z=e)(g:i<=400)(h:e<=40):Fh L:=by
 subst d;rw[eT aa] at b a
 exact⟨aa,aa,a⟩
def aar(p:Nat)(i:List StepV)(q:Rd EStep f G I J p i)(H: ∀x∈i,x.s.length<=4611686018427387904):ay 4 [.slice I J p] f (gu (λg:Bool=> .bool g) (λg=>g=false->Fh i) f):=by
 have K:=q.len
 have Y:=q.cap
 have L:=q.max
 simp only[maxLen] at L
 refine ba func4 ntmps4 ?_;refine fT ?_;refine cd (ι:=Nat × Int) (λd=>[(0,.slice I J p),(3,ad d.2),(4,ad (d.1 :Int))]) (λ_=>ag f [] []) (λd=>d.1<=J/\d.2=(J:Int)+(jx (i.take d.1):Int)/\d.2<=9223372036854775807/\ ∀x∈i.take d.1,wi x) (λd=>J - d.1) ?_ ?_;exact λZ M=>⟨(0,(J:Int)),⟨b4 _,by simp[jx],by dsimp only;omega,λx k=>by simp at k⟩,(ed rfl rfl rfl),M⟩
 rintro⟨b,h⟩ ⟨N,y,O,r⟩;dsimp only at N y O r ⊢
 refine aA ?_;refine gA (λg:Bool=>[(0,.slice I J p),(3,ad h),(4,ad (b:Int)),(15,.bool g)]) (λ_=>ag f [] []) (λg=>g=true↔(b<J/\h<=400)) ?_ ?_;refine aH ?_;refine bl 12 rfl (λc=>?_) λc=>?_;have m:=bg c
 refine aH ?_;refine dN _ ?_ (da rfl rfl rfl rfl) λ_ a=>a
 (simp only[eQ];omega)
 have m:=bm c
 refine a7 ?_;refine dN _ ?_ (da rfl rfl rfl rfl) λ_ a=>a;exact⟨λa=>Bool.noConfusion a,λa=>by exfalso;omega⟩;rintro g z;refine av ?_;refine cD rfl (λt=>?_) λt=>?_;have P:=z.1 t
 obtain⟨⟨A,B,C,e⟩,k⟩ : ∃x,i[b]? = some x:=⟨_,bD aa⟩;have Za:e.length<=4611686018427387904:=H _<|cR k
 have l:=MU k
 dsimp only at l
 obtain⟨Zb,D,Zc,E⟩:=q.at_ k;have n:wi ⟨A,B,C,e⟩-> ∀x∈i.take (b+1),wi x:=λa x F=>by
  rw[hA,k] at F
  rcases dq.1 F with ae | ae
  exact r x ae;simp at ae;subst ae;exact a
 refine a6 ?_;refine bE (q:=b) BF rfl rfl rfl D rfl aa<|av ?_;refine bb (v:=bU e) oA rfl rfl (λQ u=>u.ch (E 3 _ rfl) au)<|a6 ?_;refine bE (q:=b) BF rfl rfl rfl D rfl aa<|cE (vs:=[ad A,ad B,ad C,bU e]) F9 rfl rfl rfl (λQ u R S T=>u.ch (E R S T) au)<|av ?_;intro Zd Ze Zf;refine a6 ?_;refine bl 33 rfl (λc=>?_) λc=>?_;have m:=bg c
 refine aY ?_;refine bl 37 rfl (λv=>?_) λv=>?_;have U:=bg v
 refine be ?_;refine bl 42 rfl (λj=>?_) λj=>?_;have w:=bg j
 refine oI ?_;exact eN true (Bool.noConfusion ·);have w:=bm j
 refine aY ?_;refine bl 46 rfl (λo=>?_) λo=>?_;have V:=bg o
 refine (aE) (λW=>b6 ?_) λW=>aY ?_;exact eN true (Bool.noConfusion ·);exact bv (b+1,h+(e.length:Int)) ⟨aa,by dsimp only;rw[l];omega,by dsimp only;omega,n λa=>by dsimp only at *;omega⟩ bL b5 λ_ a=>a.aF aP.nil;have V:=bm o
 refine fT ?_;exact bv (b+1,h+(e.length:Int)) ⟨aa,by dsimp only;rw[l];omega,by dsimp only;omega,n λa=>by dsimp only at *;omega⟩ bL b5 λ_ a=>a.aF aP.nil;have U:=bm v
 refine dO ?_;refine bl 46 rfl (λj=>?_) λj=>?_;have w:=bg j
 refine (aE) (λo=>b6 ?_) λo=>aY ?_;exact eN true (Bool.noConfusion ·);exact bv (b+1,h+(e.length:Int)) ⟨aa,by dsimp only;rw[l];omega,by dsimp only;omega,n λa=>by dsimp only at *;omega⟩ bL b5 λ_ a=>a.aF aP.nil;have w:=bm j
 refine fT ?_;exact bv (b+1,h+(e.length:Int)) ⟨aa,by dsimp only;rw[l];omega,by dsimp only;omega,n λa=>by dsimp only at *;omega⟩ bL b5 λ_ a=>a.aF aP.nil;have m:=bm c
 refine wQ ?_;exact bv (b+1,h+(e.length:Int)) ⟨aa,by dsimp only;rw[l];omega,by dsimp only;omega,n λa=>by dsimp only at *;omega⟩ bL b5 λ_ a=>a.aF aP.nil;have P: ¬(b<J/\h<=400):=λa=>Bool.noConfusion<|(z.2 a).symm.trans t
 refine be ?_;refine bl 55 rfl (λc=>?_) λc=>?_;have m:=bg c
 refine a6 ?_;exact eN true (Bool.noConfusion ·);have m:=bm c
 refine b6 ?_;exact λZg X=>gu.of _ (λa=>by (have Zh:=bm a;exact aaq K y r aa aa aa)) rfl X.ext
def wj:List UInt8:=[27,93,49,51,51,59,65,7,36,32,27,93,49,51,51,59,66,7,108,115,13,10,27,93,49,51,51,59,67,7,97,98,99,100,101,13,10,102,13,10,27,93,49,51,51,59,68,59,51,7]
def MV :a1:=if q.use=true then q.br else q.am
def rb :List bq:=(MV q).bz.jK++(MV q).bz.cY
def Fi(id d:Int):List UInt8 × Bool × Int:=match lU K id ⟨(L.length:Int),0⟩ with
 | none=>([],false,5)
 | some b=>match ra b d with
  | none=>([],false,1)
  | some (c,a)=>(if a=⟨(L.length:Int),0⟩ then p0 (ld L c a) else ld L c a,b.cut,0)
def MW:Option (fv × Int × d4 × cA):=wj.foldlM (kY 50) ((nk 0 50).h,(nk 0 50).state,(nk 0 50).dec,o4 2 3 50)
def Bj :gd:=ud ⟨[],9,0,[]⟩ (ju q).aQ
def Fj :Bool:=decide (Fi (Bj q) (rb q) 1 3=([97,98,99,100,101,10,102,10],false,0)) && (match no (Bj q) ⟨((rb q).length:Int),0⟩ with | [_,a]=>a.has && decide (a.code=3) | _=>false)
def aas: (MW.map λa=>Fj a.2.2.2)=some true:=by kernel_rfl
def aat{j b a l n:Nat}(q:M.underlying j=some (.slice b))(r:M.underlying b=some (.int .u8))(s:Nat.blt z e=true)
 (t:bi S m=some (.slice (some ⟨a,0,none⟩) l n)) (o:bC c (aG a W b) (Os.iW a b W) u)
 (v:aM M e N O R ((z,.slice (some ⟨a,0,none⟩) l n)::S) (ag h g u)):aM M e N O (⟨some z,.convert j j m,T,U,V,none⟩::R) S (ag h g c):=by
 refine iv s λB d w p=>?_
 have i:d.heap[a]? = some (.cells W.toArray b (0,0)):=p.has o.has
 have x:d.shape? a=some (b,W.length):=DQ (t:=b) i
 have C:a<d.heap.size:=(lr.1 i).1
 have D:d.heap[a]= .cells W.toArray b (0,0):=(lr.1 i).2
 have y: (d.freeze ⟨a,W.length,none⟩ 1).heap[a]? = some (.cells W.toArray b (W.length,W.length+1)):=by
  unfold World.freeze;rw[ai aW];dsimp only;rw[rg,aB rfl,i];rfl
 have A: ∀f,f≠a->(d.freeze ⟨a,W.length,none⟩ 1).heap[f]? = d.heap[f]? :=λf k=>by
  simp[World.freeze,rg,Ne.symm k]
 refine⟨_,d.freeze ⟨a,W.length,none⟩ 1,?_,v.at<|p.iM o ⟨by simp[World.freeze],by simp[World.freeze],by simp[World.freeze],by simp[World.freeze],λf _ k=>A f<|by simpa [aG] using k⟩ ⟨_,_,y,cC _,by simp⟩ (by simp[aG,Os.iW])<|by simp[Os.iW]⟩;simp[execOp,w m _ t,convert,run_underlying q,run_underlying r,markStringish,x]
def MX :p.hJ=rb p.T.abs:=by
 obtain⟨b,c,d,e,f,⟨g,h,a,i,j,k,l,m⟩,n,o,q,r,s⟩:=p;cases a <;> rfl
def aau(a:dn p e i)(id k:Int):yp p id k=Fi p.st.abs (rb p.T.abs) id k:=by
 unfold yp Fi;rw[<-MX,a.hJ.2.2];rfl
def aav(t:cA):rb { ju t with aQ:=[] } = rb t:=by
 obtain⟨b,c,a,d,e,f,aQ⟩:=t;cases a <;> rfl
def aaw{k b:cm}(g:Fb 2 3 50 9 50 k)(h:MA k 0 0 wj b):yp b 1 3=([97,98,99,100,101,10,102,10],false,0)/\ ∃i c,b.lp=[i,c]/\c.has=true/\c.code=3:=by
 obtain⟨o,q,l,r⟩:=h.ex;have e:=aas
 cases j:MW with
 | none=>rw[j] at e;cases e
 | some a=>
  rw[j] at e
  have f:Fj a.2.2.2=true:=by injection e
  have s:=g.p
  have t:o=a.2.2.2:=by
   refine (q a ?_).2.2.2;rw[s,g.T];exact j
  rw[g.st] at l
  subst t;have m:rb b.T.abs=rb a.2.2.2:=by rw[r];exact aav a.2.2.2
  have n:b.st.abs=Bj a.2.2.2:=l
  unfold Fj at f
  rw[dK] at f
  refine⟨?_,?_⟩;rw[aau h.ok,m,n];exact bg f.1;have d:=f.2
  have u:b.lp=no (Bj a.2.2.2) ⟨((rb a.2.2.2).length:Int),0⟩:=by
   unfold cm.lp;rw[n,<-h.ok.hJ.2.2,MX,m]
  rw[u];split at d
  rename_i i c v;rw[v];rw[dK] at d
  exact⟨i,c,rfl,d.1,bg d.2⟩;cases d
def MY(s:bc f [eS]):ay 5 [] f (aX (λ_:Unit=> .bool true) [eS] (λ_=>[eS]) (λ_=>True) f):=by
 refine bX func5 ntmps5 s ?_;refine aY ?_;refine bK (l0:=[eS]) ah (hargs:=rfl) (λc a=>My c (a.cb ah) 2 3 50 9 9 50 aW aW aW aW aW aW) λm o=>oI ?_;refine By (out:=cI.all wj) hC rfl rfl rfl ak λq F G=>aat underlying48 underlying5 rfl rfl cJ ?_;refine bK (l0:=[cl m]) ah (hargs:=rfl) (λc a=>MB c m o.ok (a.cb ah) aa aa (some ⟨q,0,none⟩) 50 50 wj ((Os.Rd.xN (E:=cI) (L:=wj) a (g:=q) (e:=5) bw aW aW).d8 λk t=>by subst t;exact a.wh (l:=[Os.iW k 5 (cI.all wj)]) (l2:=[cl m]) ah ah<|by simp[aK,Os.iW]) aW) λb h=>?_;refine ap ?_;obtain⟨u,i,d,v,H,w⟩:=aaw o h;refine aA ?_;refine bK (l0:=[cl b]) (v:=λ_:Unit=> .tuple #[.string (bs [97,98,99,100,101,10,102,10]),.bool false,z0]) (l':=λ_=>[cl b]) (ok:=λ_=>True) ah (hcb:=cL) (hargs:=(by rw[h.g];rfl)) (λc a=>Calls.mono (Mx c b h.ok (a.cb ah) 1 3) λe I r=>by rw[u] at r;exact r) λ_ _=>?_;refine b6 ?_;refine bK (l0:=[]) aP.nil (hcb:=cL) (hargs:=(by rw[h.g];rfl)) (λc a=>E7 c b h.ok<|a.has bw) λx y=>?_;refine a7 ?_;obtain⟨j,l,z⟩:=x;have A:z=[i,d]:=y.trans v
 subst A;refine wP ?_;refine ik (E:=lo) (e:=67) (L:=[i,d]) (A:=j) (c:=l) (q:=1) bw oC rfl rfl rfl rfl (by show 1<2;decide) λJ B=>?_;refine ap ?_;refine bb (v:= .bool d.has) pf rfl rfl (λC n=>n.hG (E:=lo) (e:=67) (L:=[i,d]) (A:=j) (c:=l) (k:=1) bw B rfl 13 _ rfl)<|aI ?_;refine ik (E:=lo) (e:=67) (L:=[i,d]) (A:=j) (c:=l) (q:=1) bw oC rfl rfl rfl rfl (by show 1<2;decide) λK D=>?_;refine ap ?_;refine bb (v:=ad d.code) bY rfl rfl (λC n=>n.hG (E:=lo) (e:=67) (L:=[i,d]) (A:=j) (c:=l) (k:=1) bw D rfl 12 _ rfl)<|aY ?_;exact λL E=>aX.cf () bh (by rw[w];rfl)<|((E.open (l:=dl b) c6).open (l:=fl b.p b.cB b.p.g b.T) c6).aF ah
def k4(k:Nat)(af:Obj):Chunk where
 cT:=[k]
 pred w:=w.heap[k]? = some af
 low w h b a:=by rw[e0.1 a];exact (lr.1 h).1
 loc w c h ao:=(h k au).trans ao
def Ext.putObj(a:World)(k:Nat)(b:Obj):Ext [k] a (a.putObj k b):=⟨rfl,rfl,rfl,Nat.le_of_eq World.putObj_size.symm,λ_ _ c=>World.putObj_heap_other λd=>c<|by rw[d];simp⟩
def ag.putObj{k:Nat}{o':Obj}(a:ag h g c w)(b:bC c (k4 k X) (k4 k o') u):ag h g u (w.putObj k o'):=
 a.iM b (Ext.putObj w k o') (World.putObj_heap_same<|(k4 k X).low w (a.has b.has) k<|by simp[k4]) (λ_ d=> .inl d) (by simp[k4])
def ag.newObj(b:ag h g c w)(a:Obj):ag h g (k4 w.heap.size a::c) (w.alloc a):=
 b.add (Ext.alloc _ _ _) (heap_alloc_new w a) (by simp[k4]) (by simp[k4])
abbrev wk :Fence:={ Fence.wide with round:=Y }
def aax{P:Program}{a:Act}{next next':Act->World->Prop}{Q:Exit->Act->World->Prop}(c: ∀a g,next a g->next' a g): ∀e,y.upon P a next Q e->y.uponIn (wk Z) 0 P a next' Q e
 | .ok (.value _) _,b=>c _ _ b
 | .ok .skip _,b=>c _ _ b
 | .ok (.defer _) _,b=>c _ _ b
 | .ok (.enter _ _) _,b=>⟨(λd=>by cases d),(callsIn_wide.2 b).mono λd h f=>by
  cases d with
  | returned i=>exact c _ _ f
  | panicked j=>exact f
  | outgrown=>exact f⟩
 | .ok (.row _ _) _,b=>⟨(λd=>by cases d),λj k _=>by
  obtain⟨i,h,e,l⟩:=b j k;exact⟨i,h,c _ _ e,stepsIn_wide.2 l⟩⟩
 | .halt (.panic _) _,b=>b
 | .ok (.round ..) _,b=>b.elim
def Fk{ro:Option Nat}{P:Program}{ops:Array Oper}{Q:Exit->Act->World->Prop}(d: ¬LetsOut Q): ∀(l:List Oper)(a:Act)(b:World),(∀af∈l,∀g,af.op≠ .defer g)->wpList P ops Q l a b->wpListIn (wk ro) 0 P ops Q l a b
 | [],_,_,_,h=>h
 | af::l,a,b,e,h=>by
  have f:=λa b=>Fk (ro:=ro) (P:=P) (ops:=ops) d l a b λaf i=>e af (by simp[i])
  unfold wpList at h
  unfold wpListIn;split at h
  rename_i c;rw[aB c];rcases h with h | h
  refine⟨λ_ _=>bh,?_⟩;rw[Oper.semAt_eq _ _ _ (e af au)];exact aax f _ h;exact absurd h.2 d;rename_i c;rw[ai c];exact⟨λ_ _=>bh,f _ _ h⟩
def MZ{n:Nat}{Q:cN}(a: ∀l b,¬Q .outgrown l b): ¬LetsOut (qe n Q):=λ⟨_,_,_,_,c⟩=>a _ _ c
def M0{ro:Option Nat}{P:Program}{n id:Nat}{ops:List Oper}{Q:cN}{l:Fr}{H:World->Prop}(a:aM P n ops.toArray Q ops l H)(b: ∀l w,¬Q .outgrown l w)(c: ∀d∈ops,∀e,d.op≠ .defer e){w:World}(f:H w)(g:hn n l t):
 (Code.region id ops.toArray false).wpIn (wk ro) 0 P (qe n Q) t w:=wpIn_region_lit<|Fk (MZ b) _ _ _ c<|a w f t g
def nu(P:Program)(n:Nat)(ops:Array Oper)(Q:cN)(rest:List Oper)(l:Fr)(H:World->Prop):Prop:= ∀a,H a-> ∀b,hn n l b->wpListIn (wk none) 0 P ops (qe n Q) rest b a
section
variable {H:World->Prop}
def aay{id:Nat}{ops:List Oper}(a:nu P n ops.toArray Q ops l H):dA P n (.region id ops.toArray false) Q l H:=
 λb c d e=>wpIn_wide.1<|wpIn_region_lit<|a b c d e
def nu.of(b: ∀l a,¬Q .outgrown l a)(c: ∀d∈rest,∀e,d.op≠ .defer e)(f:aM P n ops Q rest l H):nu P n ops Q rest l H:=λa g h i=>Fk (MZ b) _ _ _ c<|f a g h i
def nu.move(c:Nat.blt d n=true)(e:bi l m=some v)(f:nu P n ops Q rest ((d,v)::l) H):nu P n ops Q (⟨some d,.move m,ty,pos,bf,none⟩::rest) l H:=by
 intro w g h b;unfold wpListIn;rw[aB (by simp[Region.wanted])];refine⟨λ_ _=>bh,?_⟩;rw[Oper.semAt_eq _ _ _ λi a=>by cases a];have a: (execOp h.eval ⟨some d,.move m,ty,pos,bf,none⟩).run P w= .ok (.value v) w:=by simp[execOp,b.bi e]
 rw[a];exact f w g _<|b.put (ej c) v
def nu.yield{l0:List Chunk}{j:r->Value}{k:r->List Chunk}{o:r->Prop}{f:Operand}{p:Array TypeId}(s:aP c l0 u)(t:Nat.blt d n=true)(x:bi l m=some (.func (.yield e) #[] #[]))(y:bi l f=some v)
 (z: ∀w,ag h g c w->YieldAt (wk none) 0 P e #[v] w (aX j l0 k o w))
 (A: ∀b,o b->nu P n ops Q rest ((d,j b)::l) (ag h g<|k b++u)):
 nu P n ops Q (⟨some d,.call ⟨.value m,#[f],p⟩,ty,pos,bf,none⟩::rest) l (ag h g c):=by
 intro w q B i;obtain⟨C,D,E,F,G,H⟩:=z w q;unfold wpListIn;rw[aB (by simp[Region.wanted])];refine⟨λ_ _=>bh,?_⟩;rw[Oper.semAt_eq _ _ _ λL a=>by cases a];have a: (execOp B.eval ⟨some d,.call ⟨.value m,#[f],p⟩,ty,pos,bf,none⟩).run P w= .ok (.round e C D E F) w:=by
  simp[execOp,resolve,i.bi x,i.bi y,Deferred.ofValue,invoke,G]
 rw[a];refine⟨(λa=>by cases a),H.mono ?_⟩;rintro a I ⟨b,J,rfl,K⟩;exact A b J I (q.mR s K) _<|i.put (ej t) _
def Fl{d e:Code}{G:Fr->World->Prop}{w:World}(g:dA P n d (λf l w=>f= .normal/\G l w) l H)(h:H w)(i:hn n l t)(k: ∀a b c,hn n a b->G a c->e.wp P j b c): (Code.seq d e).wp P j t w:=
 wp_seq (wp_mono (g w h t i) λf b c ⟨a,m,o,p⟩=>by subst o;exact k a b c m p)
def Fm{b:Fr->World->Prop}(c: ∀a,H a->b l a):eK (λd l a=>d= .normal/\b l a) .normal l H:=λa e=>⟨rfl,c a e⟩
def wpOp{w w':World}{v:Value}(a:y.guard=none)(b: (execOp t.eval y).run P w= .ok (.value v) w')(c:wpList P ops j rest (t.put y.dst v) w'):wpList P ops j (y::rest) t w:=by
 unfold wpList;rw[aB (by simp[Region.wanted,a])];refine .inl ?_;simp only[Oper.wp,b,Oper.upon_value];exact c
