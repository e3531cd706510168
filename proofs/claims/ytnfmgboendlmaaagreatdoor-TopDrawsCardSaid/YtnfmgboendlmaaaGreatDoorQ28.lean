/- part 28 of the proof -/
import Derived.Test.YtnfmgboendlmaaaGreatDoorQ27
set_option linter.all false
namespace Go.Proofs.YtnfmgboendlmaaaGreatDoor.Mq
open RowKit Tryz
variable {P:Program}{n d:Nat}{ops:Array Oper}{Q:cN}{rest:List Oper}{l:Fr}{ty:TypeId}{pos:String}{bf:Array Edge}{b:World}{S:List Nat}
variable [Inhabited vP]{E:Bool}{B:Ending}{r:Int}{z:List Bool}{F:List UInt8}{h:Nat}{G:Option Addr}{q:World}{t:bA}{y:bM}{K:eO}{H:hR}{I:pJ}(a:World)(D:Bool)(s:List UInt8)(j:Nat)(C:bA)(J:gE)(u:Nat)(x:Int)(i:Chunk)(o:bM)
def Kk : (o.cG=o.am.g/\o.dY=o.br.g)\/(o.cG=o.br.g/\o.dY=o.am.g):=by
 unfold bM.cG bM.dY;cases o.use
 exact .inl ⟨rfl,rfl⟩;exact .inr ⟨rfl,rfl⟩
def mr.trans{c d:bM}(a:mr y c)(b:mr c d):mr y d:=⟨b.use.trans a.use,b.am.trans a.am,b.br.trans a.br⟩
def AI(v:bc a (b0 j u i o)){R:Int}{m:Nat}(w:cK j R m o):
 ay 281 [ptr j] a (js j u i R m (.tuple #[]) o a):=by
 refine bX func281 ntmps281 v ?_;refine aI ?_;refine cE (vs:=[ptr o.cG,ptr o.dY]) Gd rfl rfl rfl (λJ x y z A=>x.mI (sz:=2) (xs:=n2 u o) bw rfl y z A)<|a7 ?_;refine cd (ι:=Nat × bM) (λc=>[(0,ptr j),(7,.agg [ptr o.cG,ptr o.dY].toArray),(8,ad (c.1 :Int))]) (λc=>ag a (aK<|b0 j u i o)<|b0 j u i c.2) (λc=>c.1<=2/\cK j R m c.2/\mr o c.2) (λc=>2 - c.1) ?_ ?_
 ·exact λK B=>⟨(0,o),⟨b4 _,w,rfl,rfl,rfl⟩,(ed rfl rfl rfl),B⟩
 ·rintro⟨e,d⟩ ⟨C,b,h⟩
  dsimp only at C b h ⊢
  refine aH ?_;have D:e<2-> ∃k,[ptr o.cG,ptr o.dY][e]? = some (ptr k)/\(k=d.am.g\/k=d.br.g):=λL=>by
   rw[h.am,h.br];rcases Kk o with ⟨n,p⟩ | ⟨n,p⟩ <;> (rcases (by omega:e=0\/e=1) with rfl | rfl) <;> simp[n,p]
  refine (cj) (λE=>?_) λE=>aI ?_
  ·obtain⟨k,q,F⟩:=D aa
   focus ((rcases F with ao | ao);refine aH ?_;refine nH (q:=e) underlying117 sZ rfl rfl rfl aa aa q<|ap ?_;refine bN [0,1,2,3,4,6,7,8,9,11,12,13,14] 4 [[(5,false,[]),(10,false,[]),(15,false,[16]),(17,true,[])]] ?_;refine dO ?_;refine bF (eh.sd · d.cr b.md _ _) ?_;refine ap ?_;refine bF (eh.sd · d.cr b.md _ _) ?_;refine ap ?_;refine bF (eh.sd · d.cr b.md _ _) ?_;refine cv (λ_=>True) (λ_ f=> .inr ⟨.inr ⟨.inr f,dC⟩,dC⟩) (λ_ f=>bh)<|ap ?_;refine gL (k:=0) b ao (λG l H=>JF l b.am _ _ _) λr s I t=>?_;rotate_left;refine aH ?_;refine nH (q:=e) underlying117 sZ rfl rfl rfl aa aa q<|ap ?_;refine bN [0,1,2,3,4,6,7,8,9,11,12,13,14] 4 [[(5,false,[]),(10,false,[]),(15,false,[16]),(17,true,[])]] ?_;refine dO ?_;refine bF (eh.sd · d.cr b.md _ _) ?_;refine ap ?_;refine bF (eh.sd · d.cr b.md _ _) ?_;refine ap ?_;refine bF (eh.sd · d.cr b.md _ _) ?_;refine cv (λ_=>True) (λ_ f=> .inr ⟨.inr ⟨.inr f,dC⟩,dC⟩) (λ_ f=>bh)<|ap ?_;refine xU (k:=0) b ao (λG l H=>JF l b.br _ _ _) λr s I t=>?_;all_goals (refine a6 ?_;exact bv (e+1,r) ⟨aa,s,h.trans t⟩ bL b5 λ_ f=>f))
  ·exact bT d b
abbrev Kl :Nat:=eh.cX (eh.cX (eh.cX (eh.cX j false 4 false) true 6 false) true 7 true) true 25 true
def Vm(a:h<4294967296):Kl h<4294967296:=eh.qV (eh.qV (eh.qV (eh.qV a _ _ _) _ _ _) _ _ _) _ _ _
def cK.Vn{b:Nat}(a:cK h r b y){c:Nat}(d:c<4294967296):cK h r b { y with cr:=c }:=⟨a.am,a.br,a.room,a.bt,a.cy,a.bu,a.buf,a.aQ,d⟩
def sg(f:bc a (b0 j u i o))(b:cK j r h o)(c:Bool)(d:Int)(e:Bool):
 ay 263 [ptr j,.bool c,ad d,.bool e] a (js j u i r h (.tuple #[]) o a):=by
 have g:cK j r h { o with cr:=eh.cX o.cr c d e }:=⟨b.am,b.br,b.room,b.bt,b.cy,b.bu,b.buf,b.aQ,eh.qV b.md c d e⟩
 refine bX func263 ntmps263 f ?_;refine be ?_;refine bF (eh.qq · o.cr b.md _ _ _) ?_;refine aU ?_;refine ht (T:={ o with cr:=eh.cX o.cr c d e }) (AI · j u i _ · g) λk l=>?_;refine aA ?_;exact bT k l
def n8(d:bc a (b0 j u i o))(b:cK j r h o):
 ay 257 [ptr j] a (js j u i r h (.tuple #[]) o a):=by
 refine bX func257 ntmps257 d ?_;refine ap ?_;refine cU (gl · j u o ·)<|gL (k:=0) b bo (λc e g=>T8 e b.am) λo b k l=>aI ?_;refine cU (gl · j u o ·)<|bd (λc f=>kj c o.am<|f.fk (l:=a8 o.am) cz Has.head)<|lM (t:=142) (off:=13) ak Gf rfl rfl rfl<|Jb (t:=4) (off:=2) ak pf rfl rfl rfl<|ht (sg · j u i o · b _ _ _) λo b=>?_;refine aA ?_;exact bT o b
def Vo(c:bc a (b0 j u i o))(b:cK j r h o):
 ay 193 [ptr j] a (js j u i r h (.tuple #[]) o a):=by
 refine bX func193 ntmps193 c ?_;refine ap ?_;refine cU (gl · j u o ·)<|gL (k:=0) b bo (λe d f=>DU d b.am) λo b g k=>a6 ?_;refine bF (hargs:=rfl) (eh.qq · _ (by repeat (exact b.md)) _ _ _)<|bF (hargs:=rfl) (eh.qq · _ (by repeat (first | exact b.md | apply eh.qV)) _ _ _)<|bF (hargs:=rfl) (eh.qq · _ (by repeat (first | exact b.md | apply eh.qV)) _ _ _)<|bF (hargs:=rfl) (eh.qq · _ (by repeat (first | exact b.md | apply eh.qV)) _ _ _)<|aU ?_;refine ht (T:={ o with cr:=Kl o.cr }) (AI · j u i _ · (b.Vn<|Vm b.md)) λo b=>?_;refine aA ?_;exact bT o b
def AJ(d:bc a (b0 j u i o))(b:cK j r h o)(q:h<=1460000000000)(e f:Int):
 ay 189 [ptr j,.int .u8 e,ad f] a (js j u i r (h+1) (.tuple #[]) o a):=by
 refine bX func189 ntmps189 d ?_;refine aH ?_;focus (refine (cj) (λg=>?_) λg=>?_;refine aA ?_;refine cU (gl · j u o ·)<|av ?_;refine gL (k:=1) b bo (hargs:=rfl) (λk c l=>qU c b.am (by have:=b.bu;omega) _) λo b m n=>?_;rotate_left;refine aA ?_;refine cU (gl · j u o ·)<|av ?_;refine gL (k:=0) b bo (λk c l=>T2 c b.am _) λo b m n=>?_;all_goals (refine aA ?_;intro s p;exact eV o (b.mono aa) p))
def fj.D9{d:World}(h:bc q (a8 t))(e:eM t)(b:z.length=t.st.bs.length)(j:dw.e2 t.st.g t.st.bs.length t.st.i z q B d):fj 0 t (.tuple #[]) q B d:=by
 obtain⟨f,k,rfl,l,m,o,s⟩:=j;refine⟨{ t with st:=⟨t.st.g,z,f⟩ },⟨rfl,rfl,rfl,⟨e.r,k,by rw[b];exact e.n⟩,⟨λq=>⟨q.bz,q.y,q.x,q.top⟩,rfl,rfl,rfl,cC _⟩,λc=>⟨c.p,c.a,c.v⟩⟩,rfl,?_⟩;refine (h.start q rfl).iM (c:=t.st.aQ) (c':=dw.fz t.st.g z.length f) (bC.tail<|bC.tail<|bC.tail<|bC.tail<|bC.tail<|bC.tail bC.head) l ?_ ?_ ?_;rw[b];exact m
 rw[b];exact o
 rw[b];exact s
def xV(b:bc q (a8 t)):t.st.aQ.cT.Nodup:=by
 have a:=b.2
 rw[show aK (a8 t)=aK [t.aq,t.az.aq,aZ<|cP t.az.r,t.az.s.aD,t.az.s.cw,t.az.bu.aD]++(t.st.aQ.cT++[]) from by simp[aK],eZ] at a
 exact (gO.1 a).2.1
def D_{w:World}(a:bc w (a8 t)):t.st.aQ.pred w:=a.1 _ au
def Km(b:bc q (a8 t))(c:eP t)(a:Int)(d: -9223372036854775808<=a/\a<=9223372036854775807):ay 243 [ptr t.st.g,ad a] q (fj 0 t (.tuple #[]) q):=
 (dw.HO q t.st.g t.st.bs t.st.i c.g.st (D_ b) (xV b) a d).mono λ_ _ e=>fj.D9 b c.g (dw.oP _ _ _) e
def Vp(b:bc q (a8 t))(c:eP t)(a:Int)(d: -9223372036854775808<=a/\a<=9223372036854775807):ay 242 [ptr t.st.g,ad a] q (fj 0 t (.tuple #[]) q):=
 (dw.HP q t.st.g t.st.bs t.st.i c.g.st (D_ b) (xV b) a d).mono λ_ _ e=>fj.D9 b c.g (dw.oP _ _ _) e
def Kn(b:bc q (a8 t))(a:eP t):ay 293 [ptr t.st.g] q (fj 0 t (.tuple #[]) q):=
 (dw.Ch q t.st.g t.st.bs t.st.i a.g.st (D_ b) (xV b) (by have:=a.g.n;have:=a.ok.nums.2.1;omega)).mono λ_ _ c=>fj.D9 b a.g hy c
def Ko(l:bc a (a8 C))(j:eP C):ay 353 [ptr C.g] a (fj 0 C (.tuple #[]) a):=by
 refine bX func353 ntmps353 l ?_;refine ap ?_;refine cU (zU · C ·)<|aH ?_;refine dE (λh d=>Kn d j) λm o=>?_;refine aY ?_;refine cd (ι:=Nat × bA) (λb=>[(2,ptr C.st.g),(3,ad (b.1 :Int))]) (λb=>ag a (aK<|a8 C)<|a8 b.2) (λb=>b.1<=2000/\hI 0 C b.2) (λb=>2008 - b.1) ?_ ?_;exact λx p=>⟨(0,m),⟨b4 _,o⟩,(ig rfl rfl),p⟩
 rintro⟨k,e⟩ ⟨q,c⟩;dsimp only at q c ⊢
 have f:=c.ok j
 have y:=f.g.n
 have d:=f.ok.nums.2.1
 have r:=c.st
 rw[<-r];refine aI ?_;refine cU (λh s=>dw.HH h e.st.g e.st.bs.length e.st.i<|dw.ih.of s f.g.st.len) ?_;refine (aE) (λt=>aU ?_) λt=>aI ?_;refine (dg) (λh d=>Km d f k aa) λu v=>aY ?_;exact bv (k+8,u) ⟨aa,c.trans v⟩ bL b5 λ_ w=>w;exact bT e c
def Vq(M:bc a (b0 j u i o))(Za:xS i){R:Int}{m:Nat}(N:cK j R m o)(Zb:m<=1460000000000):
 ay 262 [ptr j] a (js j u i R (m+2) (.tuple #[]) o a):=by
 refine bX func262 ntmps262 M ?_;refine aH ?_;refine cE (vs:=[ptr o.cG,ptr o.dY]) Gd rfl rfl rfl (λZc n O P Q=>n.mI (sz:=2) (xs:=n2 u o) bw rfl O P Q)<|a7 ?_;refine cd (ι:=Nat × bM) (λf=>[(0,ptr j),(7,.agg [ptr o.cG,ptr o.dY].toArray),(8,ad (f.1 :Int))]) (λf=>ag a (aK<|b0 j u i o)<|b0 j u i f.2) (λf=>f.1<=2/\cK j R (m+f.1) f.2/\mr o f.2) (λf=>2 - f.1) ?_ ?_
 ·exact λZd S=>⟨(0,o),⟨b4 _,N,rfl,rfl,rfl⟩,(ed rfl rfl rfl),S⟩
 ·rintro⟨h,e⟩ ⟨T,b,l⟩
  dsimp only at T b l ⊢
  have U:h<2-> ∃p,[ptr o.cG,ptr o.dY][h]? = some (ptr p)/\(p=e.am.g\/p=e.br.g):=λq=>by
   rw[l.am,l.br];rcases Kk o with ⟨v,w⟩ | ⟨v,w⟩ <;> (rcases (by omega:h=0\/h=1) with rfl | rfl) <;> simp[v,w]
  refine (aE) (λV=>?_) λV=>?_
  ·obtain⟨p,x,W⟩:=U aa
   focus ((rcases W with ao | ao);refine aH ?_;refine nH (q:=h) underlying117 sZ rfl rfl rfl aa aa x<|aH ?_;refine gL (k:=0) b ao (λd c k=>DU c b.am) λe b ao y=>aI ?_;refine gL (k:=1) b ao (hargs:=rfl) (λd c k=>qU c b.am (by have:=b.bu;omega) _) λe b ao z=>?_;refine aI ?_;refine gL (k:=0) b ao (λd c k=>Ar c b.am _ _) λe b ao A=>?_;refine a7 ?_;refine gL (k:=0) b ao (λd c k=>Ko d _ c b.am) λe b ao B=>?_;rotate_left;refine aH ?_;refine nH (q:=h) underlying117 sZ rfl rfl rfl aa aa x<|aH ?_;refine xU (k:=0) b ao (λd c k=>DU c b.br) λe b ao y=>aI ?_;refine xU (k:=1) b ao (hargs:=rfl) (λd c k=>qU c b.br (by have:=b.bu;omega) _) λe b ao z=>?_;refine aI ?_;refine xU (k:=0) b ao (λd c k=>Ar c b.br _ _) λe b ao A=>?_;refine a7 ?_;refine xU (k:=0) b ao (λd c k=>Ko d _ c b.br) λe b ao B=>?_;all_goals (have l:=(((l.trans y).trans z).trans A).trans B;refine aU ?_;exact bv (h+1,e) ⟨aa,b.mono aa,l⟩ bL b5 λ_ X=>X))
  ·obtain⟨C,D,Y,Ze,Zf,E,F,G⟩:=e
   have Z:=b.mono (k:=m+2) aa
   obtain⟨n,q,H,I,Zg,J,K,L,Zh⟩:=Z;cases Y with
   | false=>
    refine be ?_;refine bF (eh.u7 ·) ?_;refine cn ?_;refine bK (l0:=b0 j u i ⟨C,D,false,eh.pO,[],E,F,G⟩) ah (hargs:=rfl) (λd r=>AI d j u i _ (r.cb ah) (R:=R) (m:=m+2) ⟨n,q,H,I,by simp,J,K,L,show eh.pO<4294967296 by decide⟩) λs t=>?_;refine aA ?_;exact bT s t
   | true=>
    refine be ?_;refine bF (eh.u7 ·) ?_;refine cn ?_;refine bK (l0:=b0 j u i ⟨D,C,false,eh.pO,[],E,F,G⟩) ah (hargs:=rfl) (λd r=>AI d j u i _ (r.cb ah) (R:=R) (m:=m+2) ⟨q,n,H,I,by simp,by dsimp only at J ⊢;omega,K,L,show eh.pO<4294967296 by decide⟩) λs t=>?_;refine aA ?_;exact bT s t
def vR(a:j<=1001): (Lib.decDigits j).length<=21:=bj.Ie aa
def Vr(a:Int): (bj.zV D (bj.fV x)<|bj.fV a).length<=1000:=by
 have b:=vR (bj.fV x+1) (by have:=bj.nU x;omega)
 have c:=vR (bj.fV a+1) (by have:=bj.nU a;omega)
 unfold bj.zV;cases D <;> simp <;> omega
def Kp(f:bc a (b0 j u i o))(g:xS i)(b:cK j r h o)(s:h<=1460000000000)(e:Bool):
 ay 188 [ptr j,.bool e] a (js j u i r (h+1000) (.tuple #[]) o a):=by
 have k:=Vr e
 have t:0<=o.am.y/\o.am.y<=1000:=by have l:=b.am.ok.y;have m:=vc b.am.ok;simp only[bA.abs,a1.rows] at *;omega
 have v:0<=o.am.top/\o.am.top<=1000:=by have l:=b.am.ok.top;have m:=vc b.am.ok;simp only[bA.abs,a1.rows] at *;omega
 refine bX func188 ntmps188 f ?_;refine ap ?_;refine cU (gl · j u o ·)<|bd (λc d=>kj c o.am<|d.fk (l:=a8 o.am) cz Has.head)<|av ?_;intro w x z;refine fR yU rfl rfl (by rw[Ap];exact bC.head) rfl (aV.cons rfl<|aV.cons rfl<|aV.cons rfl<|aV.cons rfl<|aV.cons rfl<|aV.cons rfl<|aV.cons rfl<|aV.cons rfl<|aV.cons rfl<|hg rfl rfl rfl rfl rfl rfl rfl rfl rfl rfl) (by exact ej rfl) ?_;refine gQ ?_;focus (refine cD rfl (λn=>?_) λn=>?_;refine b6 ?_;rotate_left;refine aH ?_;all_goals (refine bd (λc d=>vQ c j u o (d.has cz) (d.fk (l:=a8 o.am) cW Has.head) (d.fk (l:=a8 o.am) cW<|Has.tail Has.head) b.am.ok.nums.2.1)<|av ?_;refine cU (λc p=>bj.Rr c (g c p).it _ _ _) ?_;refine iX (hargs:=rfl) (q0 · j u i o · b _ aa (by apply k)) λo b=>aA ?_;intro A q;exact eV o (b.mono aa) q))
def Vs(y:bc a (b0 j u i o))(s:xS i)(b:cK j r h o)(M:h<=1460000000000)(z:Int):
 ay 183 [ptr j,ptr o.am.g,.int .u8 z] a (js j u i r (h+1000) (.tuple #[]) o a):=by
 refine bX func183 ntmps183 y ?_;refine b6 ?_;focus (refine (cj) (λA=>?_) λA=>?_;refine aA ?_;refine gL (k:=0) b bo (λc d f=>vF d b.am) λo b k l=>?_;rotate_left;refine aH ?_;refine (cj) (λB=>?_) λB=>?_;refine aA ?_;refine ht (n8 · j u i o · b) λo b=>?_;rotate_left;refine aH ?_;refine (cj) (λC=>?_) λC=>?_;refine aA ?_;refine gL (k:=2) b bo (λc d f=>JE d b.am (by have:=b.bu;omega)) λo b k l=>?_;rotate_left;refine aH ?_;refine (cj) (λD=>?_) λD=>?_;refine ap ?_;refine gL (k:=2) b bo (λc d f=>JE d b.am (by have:=b.bu;omega)) λo b k l=>?_;refine a7 ?_;refine gL (k:=0) b k (λc d f=>vE d b.am) λo b k l=>?_;rotate_left;refine aH ?_;refine (cj) (λE=>?_) λE=>?_;refine aA ?_;refine gL (k:=2) b bo (λc d f=>T9 d b.am (by have:=b.bu;omega)) λo b k l=>?_;rotate_left;refine aH ?_;refine (cj) (λF=>?_) λF=>?_;refine aA ?_;refine bd (λc e=>zU c o.am<|e.fk (l:=a8 o.am) cz Has.head)<|av ?_;refine bd (λc e=>vQ c j u o (e.has bw) (e.fk (l:=a8 o.am) cz Has.head) (e.fk (l:=a8 o.am) cz<|Has.tail Has.head) b.am.ok.nums.2.1) ?_;refine Vl (k:=0) b (hargs:=rfl) (λc d f=>Km d b.am _ (by have:=b.am.ok.nums;omega)) λo b l=>?_;rotate_left;refine aH ?_;refine (cj) (λG=>?_) λG=>?_;refine aA ?_;refine cU (λc H=>bj.Ik c (s c H).it) ?_;refine ht (hargs:=rfl) (q0 · j u i o · b _ aa aW) λo b=>?_;rotate_left;refine aH ?_;refine (cj) (λI=>?_) λI=>?_;refine aA ?_;refine ht (Vq · j u i o · s b aa) λo b=>?_;rotate_left;refine aU ?_;refine (cj) (λm=>?_) λm=>?_;have t:=m;refine aA ?_;refine e_ rfl ((bI t))<|a7 ?_;refine ht (sg · j u i o · b _ _ _) λo b=>?_;rotate_left;have t:=m;refine aI ?_;refine (cj) (λJ=>?_) λJ=>?_;refine a7 ?_;refine ht (sg · j u i o · b _ _ _) λo b=>?_;rotate_left;refine aU ?_;refine (cj) (λn=>?_) λn=>?_;have v:=n;refine aA ?_;refine e_ rfl ((bI v))<|ap ?_;refine bd (λc e=>kj c o.am<|e.fk (l:=a8 o.am) cz Has.head) ?_;refine lM (t:=140) (off:=7) ak nF rfl rfl rfl<|av ?_;refine bF (zS · ⟨_,_,_,_,_,_⟩ _) ?_;refine gL (k:=0) b bo (λc d f=>pN d b.am ⟨_,_,_,_,_,_⟩) λo b k l=>?_;rotate_left;have v:=n;refine aH ?_;refine (cj) (λp=>?_) λp=>?_;have w:=p;refine aA ?_;refine e_ rfl ((bI w))<|ap ?_;refine bd (λc e=>kj c o.am<|e.fk (l:=a8 o.am) cz Has.head) ?_;refine lM (t:=140) (off:=7) ak nF rfl rfl rfl<|av ?_;refine bF (zS · ⟨_,_,_,_,_,_⟩ _) ?_;refine gL (k:=0) b bo (λc d f=>pN d b.am ⟨_,_,_,_,_,_⟩) λo b k l=>?_;rotate_left;have w:=p;refine aH ?_;refine (cj) (λq=>?_) λq=>?_;have x:=q;refine aA ?_;refine e_ rfl ((bI x))<|ap ?_;refine bd (λc e=>kj c o.am<|e.fk (l:=a8 o.am) cz Has.head) ?_;refine lM (t:=140) (off:=7) ak nF rfl rfl rfl<|av ?_;refine bF (zS · ⟨_,_,_,_,_,_⟩ _) ?_;refine gL (k:=0) b bo (λc d f=>pN d b.am ⟨_,_,_,_,_,_⟩) λo b k l=>?_;rotate_left;have x:=q;refine aI ?_;refine (cj) (λK=>?_) λK=>?_;refine ap ?_;refine bd (λc e=>kj c o.am<|e.fk (l:=a8 o.am) cz Has.head) ?_;refine lM (t:=140) (off:=7) ak nF rfl rfl rfl<|av ?_;refine bF (zS · ⟨_,_,_,_,_,_⟩ _) ?_;refine gL (k:=0) b bo (λc d f=>pN d b.am ⟨_,_,_,_,_,_⟩) λo b k l=>?_;all_goals (refine ap ?_;intro N L;exact eV o (b.mono aa) L))
section
variable {args:List Operand}{di:Array TypeId}{f:FuncId}{vs:List Value}{v:Value}{g par k m p:Nat}{R:Int}{T:bM}{X:Chunk}
def vS(j:cK g R m T)
 (o: ∀c,ag b S (b0 g par X T) c->Calls P f vs.toArray c (fj k T.am v c))
 (p: ∀e:bM,cK g R (m+k) e->mr T e->aM P n ops Q rest ((d,v)::l) (ag b S<|b0 g par X e)) (q:db l args=some vs:=by exact rfl) (r:Nat.blt d n=true:=by exact rfl) (s:dX P f:=by exact cL):
 aM P n ops Q (⟨some d,.call ⟨.value<|.func f,args.toArray,di⟩,ty,pos,bf,none⟩::rest) l (ag b S<|b0 g par X T):=by
 refine ml (l0:=a8 T.am) (l':=a8) (cs1:=λa=>[eu g par T,aZ<|a8 a,aZ<|a8 T.br,T.buf.aD,T.aQ.aD,X]) (λa=>bC.tail bC.head) (hd:=r) (hcb:=s) (hargs:=q) o λa h=>?_;have i:=p { T with am:=a } (j.tG h) ⟨rfl,h.g,rfl⟩
 simp only[b0] at i
 rw[tH h.g] at i
 exact i
def apart(c:ag b S (b0 g par X T) q)(d:h∈aK (a8 T.br)):h∉aK (a8 T.am):=λe=>by
 have a:=c.nodup
 rw[show aK (b0 g par X T)=(eu g par T).cT++(aK (a8 T.am)++(aK (a8 T.br)++aK [T.buf.aD,T.aQ.aD,X])) from by simp[aK,aZ]] at a
 exact (gO.1 (gO.1 a).2.1).2.2 h e h (p7 _ d) rfl
end
def vT{b:World}{S:List Nat}{g par:Nat}{X:Chunk}{T:bM}{R:Int}{m:Nat}(d:cK g R m T)(e:h=T.br.g)(c:ag b S (b0 g par X T) q):ay 432 [ptr T.am.g,ptr h] q (fj 0 T.am (.tuple #[]) q):=by
 subst e;exact TG q T.am T.br (c.mj<|Has.tail Has.head) d.am.g d.am.ok.bz (c.fk (l:=a8 T.br) cW Has.head) (c.fk (l:=a8 T.br) cW<|Has.tail Has.head) d.br.ok.nums.2.1 (apart c<|by simp[aK,bA.aq,aG]) (apart c<|by simp[aK,bA.aq,aG]) d.br.iB.a
def cK.swap{g:Nat}{R:Int}{m:Nat}{b:bA}(a:cK g R m ⟨t,b,E,h,F,G,H,I⟩):cK g R m ⟨b,t,!E,h,F,G,H,I⟩:=by
 refine⟨a.br,a.am,?_,a.bt,a.cy,?_,a.buf,a.aQ,a.md⟩
 ·have:=a.room
  cases E <;> exact this
 ·have:=a.bu
  dsimp only at this ⊢
  omega
def Ea(g par:Nat)(X:Chunk)(T:bM)(B:bc a (b0 g par X T)){R:Int}{m:Nat}(b:cK g R m T)(S:m<=1460000000000)(C D:Bool):
 ay 363 [ptr g,.bool C,.bool D] a (js g par X R (m+1) (.tuple #[]) T a):=by
 obtain⟨j,k,t,l,n,o,p,q⟩:=T;refine bX func363 ntmps363 B ?_;cases t with
 | false=>
  refine a6 ?_;refine BD underlying4 rfl rfl rfl ?_;refine aA ?_;refine (cj) (λE=>?_) λE=>?_
  ·skip
   refine ap ?_;exact λF c=>aX.cf ⟨j,k,_,l,n,o,p,q⟩ (b.mono aa) rfl<|c.aF ah
  ·skip
   refine aI ?_;refine cU (gl · g par _ ·) ?_;refine aY ?_;refine bl 17 rfl (λG=>?_) λG=>?_
   ·skip
    refine aI ?_;refine cD rfl (λH=>?_) λH=>?_
    ·skip
     refine aA ?_;refine gL (k:=0) b rfl (λf d s=>vF d b.am) λ⟨j,k,t,l,n,o,p,q⟩ b r e=>?_;obtain rfl:t=false:=e.use
     refine aY ?_;refine bb (v:=z0) bY rfl rfl (λu h=>h.e8 bw rfl) ?_;refine a7 ?_;have b:=b.swap
     refine iL (H':=ag a _<|b0 g par X ⟨k,j,true,l,n,o,p,q⟩) ?_ (Sub.refl _) λ_ c=>c.aF ah;refine aI ?_;refine cU (gl · g par _ ·) ?_;refine av ?_;refine vS (k:=0) b (λf i=>vT b r i) λT b e=>?_;refine a6 ?_;refine cD rfl (λv=>?_) λv=>?_
     ·simp only[cq] at v
      refine ap ?_;exact bT T<|b.mono aa
     ·simp only[cq] at v
      refine aU ?_;refine cD rfl (λI=>?_) λI=>?_
      ·skip
       refine aA ?_;refine cU (gl · g par _ ·) ?_;refine gL (k:=1) b bo (hargs:=rfl) (λf d s=>qU d b.am (by have:=b.bu;omega) _) λT b r e=>?_;refine aA ?_;exact bT T<|b.mono aa
      ·skip
       refine aA ?_;refine ht (n8 · g par X T · b) λT b=>?_;refine aA ?_;exact bT T<|b.mono aa
    ·skip
     refine aY ?_;refine bb (v:=z0) bY rfl rfl (λu h=>h.e8 bw rfl) ?_;refine a7 ?_;have b:=b.swap
     refine iL (H':=ag a _<|b0 g par X ⟨k,j,true,l,n,o,p,q⟩) ?_ (Sub.refl _) λ_ c=>c.aF ah;refine aI ?_;refine cU (gl · g par _ ·) ?_;refine av ?_;refine vS (k:=0) b (λf i=>vT b bo i) λT b e=>?_;refine a6 ?_;refine cD rfl (λw=>?_) λw=>?_
     ·simp only[cq] at w
      refine ap ?_;exact bT T<|b.mono aa
     ·simp only[cq] at w
      refine aU ?_;refine cD rfl (λJ=>?_) λJ=>?_
      ·skip
       refine aA ?_;refine cU (gl · g par _ ·) ?_;refine gL (k:=1) b bo (hargs:=rfl) (λf d s=>qU d b.am (by have:=b.bu;omega) _) λT b r e=>?_;refine aA ?_;exact bT T<|b.mono aa
      ·skip
       refine aA ?_;refine ht (n8 · g par X T · b) λT b=>?_;refine aA ?_;exact bT T<|b.mono aa
   ·skip
    refine cn ?_;refine bb (v:=z0) bY rfl rfl (λu h=>h.e8 bw rfl) ?_;refine a7 ?_;have b:=b.swap
    refine iL (H':=ag a _<|b0 g par X ⟨k,j,true,l,n,o,p,q⟩) ?_ (Sub.refl _) λ_ c=>c.aF ah;refine aI ?_;refine cU (gl · g par _ ·) ?_;refine av ?_;refine vS (k:=0) b (λf i=>vT b bo i) λT b e=>?_;refine a6 ?_;refine cD rfl (λx=>?_) λx=>?_
    ·simp only[cq] at x
     refine ap ?_;exact bT T<|b.mono aa
    ·simp only[cq] at x
     refine aU ?_;refine cD rfl (λK=>?_) λK=>?_
     ·skip
      refine aA ?_;refine cU (gl · g par _ ·) ?_;refine gL (k:=1) b bo (hargs:=rfl) (λf d s=>qU d b.am (by have:=b.bu;omega) _) λT b r e=>?_;refine aA ?_;exact bT T<|b.mono aa
     ·skip
      refine aA ?_;refine ht (n8 · g par X T · b) λT b=>?_;refine aA ?_;exact bT T<|b.mono aa
 | true=>
  refine a6 ?_;refine BD underlying4 rfl rfl rfl ?_;refine aA ?_;refine (cj) (λL=>?_) λL=>?_
  ·skip
   refine ap ?_;exact λF c=>aX.cf ⟨j,k,_,l,n,o,p,q⟩ (b.mono aa) rfl<|c.aF ah
  ·skip
   refine aI ?_;refine cU (gl · g par _ ·) ?_;refine aY ?_;refine bl 17 rfl (λM=>?_) λM=>?_
   ·skip
    refine aI ?_;refine cD rfl (λN=>?_) λN=>?_
    ·skip
     refine aA ?_;refine gL (k:=0) b rfl (λf d s=>vF d b.am) λ⟨j,k,t,l,n,o,p,q⟩ b r e=>?_;obtain rfl:t=true:=e.use
     refine aY ?_;refine bb (v:=ad 1) bY rfl rfl (λu h=>h.e8 bw rfl) ?_;refine a7 ?_;have b:=b.swap
     refine iL (H':=ag a _<|b0 g par X ⟨k,j,false,l,n,o,p,q⟩) ?_ (Sub.refl _) λ_ c=>c.aF ah;refine aI ?_;refine cU (gl · g par _ ·) ?_;refine av ?_;refine vS (k:=0) b (λf i=>vT b r i) λT b e=>?_;refine a6 ?_;refine cD rfl (λy=>?_) λy=>?_
     ·simp only[cq] at y
      refine ap ?_;exact bT T<|b.mono aa
     ·simp only[cq] at y
      refine aU ?_;refine cD rfl (λO=>?_) λO=>?_
      ·skip
       refine aA ?_;refine cU (gl · g par _ ·) ?_;refine gL (k:=1) b bo (hargs:=rfl) (λf d s=>qU d b.am (by have:=b.bu;omega) _) λT b r e=>?_;refine aA ?_;exact bT T<|b.mono aa
      ·skip
       refine aA ?_;refine ht (n8 · g par X T · b) λT b=>?_;refine aA ?_;exact bT T<|b.mono aa
    ·skip
     refine aY ?_;refine bb (v:=ad 1) bY rfl rfl (λu h=>h.e8 bw rfl) ?_;refine a7 ?_;have b:=b.swap
     refine iL (H':=ag a _<|b0 g par X ⟨k,j,false,l,n,o,p,q⟩) ?_ (Sub.refl _) λ_ c=>c.aF ah;refine aI ?_;refine cU (gl · g par _ ·) ?_;refine av ?_;refine vS (k:=0) b (λf i=>vT b bo i) λT b e=>?_;refine a6 ?_;refine cD rfl (λz=>?_) λz=>?_
     ·simp only[cq] at z
      refine ap ?_;exact bT T<|b.mono aa
     ·simp only[cq] at z
      refine aU ?_;refine cD rfl (λP=>?_) λP=>?_
      ·skip
       refine aA ?_;refine cU (gl · g par _ ·) ?_;refine gL (k:=1) b bo (hargs:=rfl) (λf d s=>qU d b.am (by have:=b.bu;omega) _) λT b r e=>?_;refine aA ?_;exact bT T<|b.mono aa
      ·skip
       refine aA ?_;refine ht (n8 · g par X T · b) λT b=>?_;refine aA ?_;exact bT T<|b.mono aa
   ·skip
    refine cn ?_;refine bb (v:=ad 1) bY rfl rfl (λu h=>h.e8 bw rfl) ?_;refine a7 ?_;have b:=b.swap
    refine iL (H':=ag a _<|b0 g par X ⟨k,j,false,l,n,o,p,q⟩) ?_ (Sub.refl _) λ_ c=>c.aF ah;refine aI ?_;refine cU (gl · g par _ ·) ?_;refine av ?_;refine vS (k:=0) b (λf i=>vT b bo i) λT b e=>?_;refine a6 ?_;refine cD rfl (λA=>?_) λA=>?_
    ·simp only[cq] at A
     refine ap ?_;exact bT T<|b.mono aa
    ·simp only[cq] at A
     refine aU ?_;refine cD rfl (λQ=>?_) λQ=>?_
     ·skip
      refine aA ?_;refine cU (gl · g par _ ·) ?_;refine gL (k:=1) b bo (hargs:=rfl) (λf d s=>qU d b.am (by have:=b.bu;omega) _) λT b r e=>?_;refine aA ?_;exact bT T<|b.mono aa
     ·skip
      refine aA ?_;refine ht (n8 · g par X T · b) λT b=>?_;refine aA ?_;exact bT T<|b.mono aa
def Vt(g par:Nat)(X:Chunk)(T:bM)(F:bc a (b0 g par X T)){R:Int}{m:Nat}(b:cK g R m T)(L:m<=1460000000000)(p:Bool)(n:Int)(t:Bool):
 ay 273 [ptr g,.bool p,ad n,.bool t] a (js g par X R (m+1) (.tuple #[]) T a):=by
 refine bX func273 ntmps273 F ?_;refine aI ?_;refine bl 11 rfl (λG=>aH ?_) λG=>nI ?_
 ·refine bl 14 rfl (λH=>nI ?_) λH=>aY ?_
  ·refine cd (ι:=Nat × bM) (λc=>[(0,ptr g),(2,ad n),(3,.bool t),(23,.agg [ad 47,ad 1047,ad 1049].toArray),(24,ad (c.1 :Int))]) (λc=>ag a (aK<|b0 g par X T)<|b0 g par X c.2) (λc=>c.1<=3/\cK g R m c.2) (λc=>3 - c.1) ?_ ?_
   ·exact λD k=>⟨(0,T),⟨b4 _,b⟩,(en rfl rfl rfl rfl rfl),k⟩
   ·rintro⟨d,T⟩ ⟨l,b⟩
    dsimp only at l b ⊢
    have o:d<3-> ∃f:Int,[Value.int .i64 47,ad 1047,ad 1049][d]? = some (ad f):=λE=>by
     rcases (by omega:d=0\/d=1\/d=2) with rfl | rfl | rfl <;> exact⟨_,rfl⟩
    refine (aE) (λq=>?_) λq=>bP ?_
    ·obtain⟨f,r⟩:=o aa
     refine aH ?_;refine nH (q:=d) underlying400 bY rfl rfl rfl aa aa r<|aU ?_;refine ht (sg · g par X T · b _ _ _) λT b=>?_;refine aU ?_;exact bv (d+1,T) ⟨aa,b⟩ bL b5 λ_ s=>s
    ·refine ht (hargs:=rfl) (Ea · g par X T · b aa _ _) λT b=>aI ?_
     exact bT T<|b.mono aa
  ·refine bl 18 rfl (λI=>fa ?_) λI=>?_
   ·refine cd (ι:=Nat × bM) (λc=>[(0,ptr g),(2,ad n),(3,.bool t),(23,.agg [ad 47,ad 1047,ad 1049].toArray),(24,ad (c.1 :Int))]) (λc=>ag a (aK<|b0 g par X T)<|b0 g par X c.2) (λc=>c.1<=3/\cK g R m c.2) (λc=>3 - c.1) ?_ ?_
    ·exact λD k=>⟨(0,T),⟨b4 _,b⟩,(en rfl rfl rfl rfl rfl),k⟩
    ·rintro⟨d,T⟩ ⟨l,b⟩
     dsimp only at l b ⊢
     have o:d<3-> ∃f:Int,[Value.int .i64 47,ad 1047,ad 1049][d]? = some (ad f):=λE=>by
      rcases (by omega:d=0\/d=1\/d=2) with rfl | rfl | rfl <;> exact⟨_,rfl⟩
     refine (aE) (λq=>?_) λq=>bP ?_
     ·obtain⟨f,r⟩:=o aa
      refine aH ?_;refine nH (q:=d) underlying400 bY rfl rfl rfl aa aa r<|aU ?_;refine ht (sg · g par X T · b _ _ _) λT b=>?_;refine aU ?_;exact bv (d+1,T) ⟨aa,b⟩ bL b5 λ_ s=>s
     ·refine ht (hargs:=rfl) (Ea · g par X T · b aa _ _) λT b=>aI ?_
      exact bT T<|b.mono aa
   ·refine (aE) (λJ=>aY ?_) λJ=>aY ?_
    ·refine cd (ι:=Nat × bM) (λc=>[(0,ptr g),(2,ad n),(3,.bool t),(23,.agg [ad 47,ad 1047,ad 1049].toArray),(24,ad (c.1 :Int))]) (λc=>ag a (aK<|b0 g par X T)<|b0 g par X c.2) (λc=>c.1<=3/\cK g R m c.2) (λc=>3 - c.1) ?_ ?_
     ·exact λD k=>⟨(0,T),⟨b4 _,b⟩,(en rfl rfl rfl rfl rfl),k⟩
     ·rintro⟨d,T⟩ ⟨l,b⟩
      dsimp only at l b ⊢
      have o:d<3-> ∃f:Int,[Value.int .i64 47,ad 1047,ad 1049][d]? = some (ad f):=λE=>by
       rcases (by omega:d=0\/d=1\/d=2) with rfl | rfl | rfl <;> exact⟨_,rfl⟩
      refine (aE) (λq=>?_) λq=>bP ?_
      ·obtain⟨f,r⟩:=o aa
       refine aH ?_;refine nH (q:=d) underlying400 bY rfl rfl rfl aa aa r<|aU ?_;refine ht (sg · g par X T · b _ _ _) λT b=>?_;refine aU ?_;exact bv (d+1,T) ⟨aa,b⟩ bL b5 λ_ s=>s
      ·refine ht (hargs:=rfl) (Ea · g par X T · b aa _ _) λT b=>aI ?_
       exact bT T<|b.mono aa
    ·refine ht (sg · g par X T · b _ _ _) λT b=>?_
     refine be ?_;focus (refine cD rfl (λe=>?_) λe=>?_;have u:=e;(simp only[cq] at e);rotate_left;have u:=e;(simp only[cq] at e);refine aU ?_;refine (cj) (λv=>?_) λv=>?_;refine aA ?_;refine cU (gl · g par T ·) ?_;refine gL (k:=0) b bo (λw h x=>Ar h b.am _ _) λT b y z=>?_;rotate_left;refine aI ?_;refine bl 54 rfl (λi=>?_) λi=>?_;(focus have A:=bg i;refine aH ?_;refine cD rfl (λj=>?_) λj=>?_;refine aA ?_;refine cU (gl · g par T ·) ?_;refine gL (k:=0) b bo (λw h x=>vF h b.am) λT b y z=>?_;rotate_left;refine aU ?_;refine (cj) (λB=>?_) λB=>?_;refine aA ?_;refine ht (n8 · g par X T · b) λT b=>?_);rotate_left 3;have A:=bm i;refine cn ?_;refine (cj) (λj=>?_) λj=>?_;refine aA ?_;refine ht (n8 · g par X T · b) λT b=>?_;all_goals (refine ap ?_;intro K C;exact eV T (b.mono aa) C))
 ·refine ht (sg · g par X T · b _ _ _) λT b=>?_
  refine be ?_;focus (refine cD rfl (λe=>?_) λe=>?_;have u:=e;(simp only[cq] at e);rotate_left;have u:=e;(simp only[cq] at e);refine aU ?_;refine (cj) (λv=>?_) λv=>?_;refine aA ?_;refine cU (gl · g par T ·) ?_;refine gL (k:=0) b bo (λw h x=>Ar h b.am _ _) λT b y z=>?_;rotate_left;refine aI ?_;refine bl 54 rfl (λi=>?_) λi=>?_;(focus have A:=bg i;refine aH ?_;refine cD rfl (λj=>?_) λj=>?_;refine aA ?_;refine cU (gl · g par T ·) ?_;refine gL (k:=0) b bo (λw h x=>vF h b.am) λT b y z=>?_;rotate_left;refine aU ?_;refine (cj) (λB=>?_) λB=>?_;refine aA ?_;refine ht (n8 · g par X T · b) λT b=>?_);rotate_left 3;have A:=bm i;refine cn ?_;refine (cj) (λj=>?_) λj=>?_;refine aA ?_;refine ht (n8 · g par X T · b) λT b=>?_;all_goals (refine ap ?_;intro K C;exact eV T (b.mono aa) C))
structure n9 [Inhabited vP] (X:Chunk) (e:eO):Prop where
 q1:xS X
 rd: ∀w,X.pred w->cp.e3 w (· ∈X.cT) e.nums.A e.nums.n e.nums.c e.nums.gs
 ok:n0 e
def sh :Int:=if s=[40] then 0 else if s=[41] then 1 else if s=[42] then 2 else if s=[43] then 3 else -1
def Vu :sh s=0\/sh s=1\/sh s=2\/sh s=3\/sh s= -1:=by
 unfold sh;repeat' split
 all_goals omega
def xW :ay 265 [bU s] a (Pure (ad<|sh s) a):=by
 refine ba func265 ntmps265 ?_;refine gQ ?_;focus (refine (cj) (λb=>?_) λb=>?_;refine a6 ?_;rotate_left;refine aH ?_;refine (cj) (λc=>?_) λc=>?_;refine a6 ?_;rotate_left;refine aH ?_;refine (cj) (λd=>?_) λd=>?_;refine a6 ?_;rotate_left;refine aH ?_;refine (cj) (λe=>?_) λe=>?_;refine a6 ?_;rotate_left;refine be ?_;all_goals (intro g f;exact⟨by unfold sh;simp_all,f.ext⟩))
def AK(l:List UInt8)(e:Int):ay 184 [.agg J.enc.toArray,bU l,.int .u8 e] a (gu (λJ:gE=> .agg J.enc.toArray) (λ_=>True) a):=by
 refine ba func184 ntmps184 ?_;rcases Vu l with ao | ao | ao | ao | ao
 refine ap ?_;intro m n o;refine av ?_;intro p q r;refine aI ?_;refine bd (λg s=>(by have f:=xW g l;rw[ao] at f;exact f)) ?_;refine a6 ?_;refine bl 12 rfl (λb=>?_) λb=>?_;have h:=bg b
 refine aH ?_;refine bl 15 rfl (λc=>?_) λc=>?_;have i:=bg c
 refine ft ?_;refine dW rfl rfl underlying5 underlying3 rfl<|av ?_;refine d9 (q:=0) underlying138 k9 rfl rfl rfl bo aa<|bP ?_;exact eN { J with gj:=IntKind.i64.wrap e } bh;have i:=bm c
 refine aY ?_;refine bl 19 rfl (λd=>?_) λd=>?_;have j:=bg d
 refine bP ?_;refine dW rfl rfl underlying5 underlying3 rfl<|av ?_;refine d9 (q:=0) underlying138 k9 rfl rfl rfl bo aa<|bP ?_;exact eN { J with gj:=IntKind.i64.wrap e } bh;have j:=bm d
 refine (aE) (λk=>ap ?_) λk=>be ?_;refine dW rfl rfl underlying5 underlying3 rfl<|av ?_;refine d9 (q:=0) underlying138 k9 rfl rfl rfl bo aa<|bP ?_;exact eN { J with gj:=IntKind.i64.wrap e } bh;exact eN J bh;have h:=bm b
 refine lB ?_;exact eN J bh;refine ap ?_;intro m n o;refine av ?_;intro p q r;refine aI ?_;refine bd (λg s=>(by have f:=xW g l;rw[ao] at f;exact f)) ?_;refine a6 ?_;refine bl 12 rfl (λb=>?_) λb=>?_;have h:=bg b
 refine aH ?_;refine bl 15 rfl (λc=>?_) λc=>?_;have i:=bg c
 refine ft ?_;refine dW rfl rfl underlying5 underlying3 rfl<|av ?_;refine d9 (q:=1) underlying138 k9 rfl rfl rfl bo aa<|bP ?_;exact eN { J with s1:=IntKind.i64.wrap e } bh;have i:=bm c
 refine aY ?_;refine bl 19 rfl (λd=>?_) λd=>?_;have j:=bg d
 refine bP ?_;refine dW rfl rfl underlying5 underlying3 rfl<|av ?_;refine d9 (q:=1) underlying138 k9 rfl rfl rfl bo aa<|bP ?_;exact eN { J with s1:=IntKind.i64.wrap e } bh;have j:=bm d
 refine (aE) (λk=>ap ?_) λk=>be ?_;refine dW rfl rfl underlying5 underlying3 rfl<|av ?_;refine d9 (q:=1) underlying138 k9 rfl rfl rfl bo aa<|bP ?_;exact eN { J with s1:=IntKind.i64.wrap e } bh;exact eN J bh;have h:=bm b
 refine lB ?_;exact eN J bh;refine ap ?_;intro m n o;refine av ?_;intro p q r;refine aI ?_;refine bd (λg s=>(by have f:=xW g l;rw[ao] at f;exact f)) ?_;refine a6 ?_;refine bl 12 rfl (λb=>?_) λb=>?_;have h:=bg b
 refine aH ?_;refine bl 15 rfl (λc=>?_) λc=>?_;have i:=bg c
 refine ft ?_;refine dW rfl rfl underlying5 underlying3 rfl<|av ?_;refine d9 (q:=2) underlying138 k9 rfl rfl rfl bo aa<|bP ?_;exact eN { J with s2:=IntKind.i64.wrap e } bh;have i:=bm c
 refine aY ?_;refine bl 19 rfl (λd=>?_) λd=>?_;have j:=bg d
 refine bP ?_;refine dW rfl rfl underlying5 underlying3 rfl<|av ?_;refine d9 (q:=2) underlying138 k9 rfl rfl rfl bo aa<|bP ?_;exact eN { J with s2:=IntKind.i64.wrap e } bh;have j:=bm d
 refine (aE) (λk=>ap ?_) λk=>be ?_;refine dW rfl rfl underlying5 underlying3 rfl<|av ?_;refine d9 (q:=2) underlying138 k9 rfl rfl rfl bo aa<|bP ?_;exact eN { J with s2:=IntKind.i64.wrap e } bh;exact eN J bh;have h:=bm b
 refine lB ?_;exact eN J bh;refine ap ?_;intro m n o;refine av ?_;intro p q r;refine aI ?_;refine bd (λg s=>(by have f:=xW g l;rw[ao] at f;exact f)) ?_;refine a6 ?_;refine bl 12 rfl (λb=>?_) λb=>?_;have h:=bg b
 refine aH ?_;refine bl 15 rfl (λc=>?_) λc=>?_;have i:=bg c
 refine ft ?_;refine dW rfl rfl underlying5 underlying3 rfl<|av ?_;refine d9 (q:=3) underlying138 k9 rfl rfl rfl bo aa<|bP ?_;exact eN { J with lf:=IntKind.i64.wrap e } bh;have i:=bm c
 refine aY ?_;refine bl 19 rfl (λd=>?_) λd=>?_;have j:=bg d
 refine bP ?_;refine dW rfl rfl underlying5 underlying3 rfl<|av ?_;refine d9 (q:=3) underlying138 k9 rfl rfl rfl bo aa<|bP ?_;exact eN { J with lf:=IntKind.i64.wrap e } bh;have j:=bm d
 refine (aE) (λk=>ap ?_) λk=>be ?_;refine dW rfl rfl underlying5 underlying3 rfl<|av ?_;refine d9 (q:=3) underlying138 k9 rfl rfl rfl bo aa<|bP ?_;exact eN { J with lf:=IntKind.i64.wrap e } bh;exact eN J bh;have h:=bm b
 refine lB ?_;exact eN J bh;refine ap ?_;intro m n o;refine av ?_;intro p q r;refine aI ?_;refine bd (λg s=>(by have f:=xW g l;rw[ao] at f;exact f)) ?_;refine a6 ?_;refine bl 12 rfl (λb=>?_) λb=>?_;have h:=bg b
 refine aH ?_;refine bl 15 rfl (λc=>?_) λc=>?_;have i:=bg c
 refine ft ?_;refine dW rfl rfl underlying5 underlying3 rfl<|av ?_;refine d9 (q:=0) underlying138 k9 rfl rfl rfl aa aa<|bP ?_;exact eN { J with gj:=IntKind.i64.wrap e } bh;have i:=bm c
 refine aY ?_;refine bl 19 rfl (λd=>?_) λd=>?_;have j:=bg d
 refine bP ?_;refine dW rfl rfl underlying5 underlying3 rfl<|av ?_;refine d9 (q:=0) underlying138 k9 rfl rfl rfl aa aa<|bP ?_;exact eN { J with gj:=IntKind.i64.wrap e } bh;have j:=bm d
 refine (aE) (λk=>ap ?_) λk=>be ?_;refine dW rfl rfl underlying5 underlying3 rfl<|av ?_;refine d9 (q:=0) underlying138 k9 rfl rfl rfl aa aa<|bP ?_;exact eN { J with gj:=IntKind.i64.wrap e } bh;exact eN J bh;have h:=bm b
 refine lB ?_;exact eN J bh
def Vv(y:bc a (b0 j u i o))(z:n9 i K)(b:cK j r h o)(A:h<=1460000000000):
 ay 114 [ptr j,.agg K.enc.toArray] a (js j u i r (h+1000) (.tuple #[]) o a):=by
 have B:=z.q1
 refine bX func114 ntmps114 y ?_;refine ap ?_;intro H I J;refine aI ?_;refine cU (gl · j u o ·)<|fa ?_;focus (refine (cj) (λC=>?_) λC=>?_;refine aI ?_;refine iX (Vs · j u i o · B b A K.byte) λo b=>ap ?_;rotate_left;(focus refine aU ?_;refine (cj) (λm=>?_) λm=>?_;have v:=m;refine aA ?_;refine e_ rfl ((bI v)) ?_;refine bN [0,1,4,5,6,7] 3 [[(2,false,[3]),(8,false,[]),(9,true,[])]] ?_;refine aY ?_;refine bd (λc e=>kj c o.am<|e.fk (l:=a8 o.am) cW Has.head)<|av ?_;refine aO rfl (λn p=>(lM (t:=140) (off:=7) ak nF rfl rfl rfl aJ)) ?_;refine aA ?_;refine kH (AK · ⟨_,_,_,_,_,_⟩ K.inter K.byte) λq _=>?_;refine ap ?_;refine fX (k:=0) b bo (λc d f=>pN d b.am ⟨_,_,_,_,_,_⟩) λo b k l=>aI ?_;rotate_left;(focus have v:=m;refine aH ?_;refine (cj) (λs=>?_) λs=>?_;have w:=s;refine aA ?_;refine e_ rfl ((bI w)) ?_;refine bN [0,1,4,5,6,7] 3 [[(2,false,[3]),(8,false,[]),(9,true,[])]] ?_;refine aY ?_;refine bd (λc e=>kj c o.am<|e.fk (l:=a8 o.am) cW Has.head)<|av ?_;refine aO rfl (λn p=>(lM (t:=140) (off:=7) ak nF rfl rfl rfl aJ)) ?_;refine aA ?_;refine kH (AK · ⟨_,_,_,_,_,_⟩ K.inter K.byte) λq _=>?_;refine ap ?_;refine fX (k:=0) b bo (λc d f=>pN d b.am ⟨_,_,_,_,_,_⟩) λo b k l=>aI ?_;rotate_left;(focus have w:=s;refine aH ?_;refine (cj) (λt=>?_) λt=>?_;have x:=t;refine aA ?_;refine e_ rfl ((bI x)) ?_;refine bN [0,1,4,5,6,7] 3 [[(2,false,[3]),(8,false,[]),(9,true,[])]] ?_;refine aY ?_;refine bd (λc e=>kj c o.am<|e.fk (l:=a8 o.am) cW Has.head)<|av ?_;refine aO rfl (λn p=>(lM (t:=140) (off:=7) ak nF rfl rfl rfl aJ)) ?_;refine aA ?_;refine kH (AK · ⟨_,_,_,_,_,_⟩ K.inter K.byte) λq _=>?_;refine ap ?_;refine fX (k:=0) b bo (λc d f=>pN d b.am ⟨_,_,_,_,_,_⟩) λo b k l=>aI ?_;rotate_left;(focus have x:=t;refine aI ?_;refine (cj) (λD=>?_) λD=>?_;refine bN [0,1,4,5,6,7] 3 [[(2,false,[3]),(8,false,[]),(9,true,[])]] ?_;refine aY ?_;refine bd (λc e=>kj c o.am<|e.fk (l:=a8 o.am) cW Has.head)<|av ?_;refine aO rfl (λn p=>(lM (t:=140) (off:=7) ak nF rfl rfl rfl aJ)) ?_;refine aA ?_;refine kH (AK · ⟨_,_,_,_,_,_⟩ K.inter K.byte) λq _=>?_;refine ap ?_;refine fX (k:=0) b bo (λc d f=>pN d b.am ⟨_,_,_,_,_,_⟩) λo b k l=>aI ?_;rotate_left;(focus refine aH ?_;refine (cj) (λE=>?_) λE=>?_;(focus refine aU ?_;refine (cj) (λF=>?_) λF=>?_;refine aA ?_;refine fX (k:=0) b bo (λc d f=>TB c o.am d b.am.g b.am.ok) λo b k l=>?_);all_goals (refine ap ?_))))));all_goals (intro L G;exact eV o (b.mono aa) G))
