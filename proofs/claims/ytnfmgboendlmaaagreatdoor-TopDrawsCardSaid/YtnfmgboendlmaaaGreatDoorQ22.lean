/- part 22 of the proof -/
import Derived.Test.YtnfmgboendlmaaaGreatDoorQ21
set_option linter.all false
namespace Go.Proofs.YtnfmgboendlmaaaGreatDoor.Mq
open RowKit Tryz
variable {b:World}{S:List Nat}{cs:List Chunk}
variable {V:Chunk}{B T U:Int}{O m:List Chunk}{y:List Int}{H:List Nat}{J u:Nat}{M:Nat->Prop}{f:Option Addr}{W:Type}{C:UInt8}{P o:World}{K s:ck}{G:fv}(I:fv)(d:World)(D:Option Addr × Nat × List Int)(a:ck)(E:Int)(X:Nat)(v:UInt8)(Q:Int)(F:List UInt8)
def ck.h :fv:=⟨a.pre,a.head.l,a.inter.l,a.text.l,a.last,a.ki,a.cut⟩
structure gK (p:ck):Prop where
 head:p.head.l.length<=256
 inter:p.inter.l.length<=2
 text: (p.text.l.length:Int)<=p.most
 most:1<=p.most/\p.most<=65536
 dec:nb p.dec
 aj: (0<=p.pre/\p.pre<=255)/\0<=p.last/\p.last<=255
def r_ :0<=(v.toNat:Int)/\(v.toNat:Int)<=255:=by have:=v.toNat_lt;omega
def Jk :0<=IntKind.u8.wrap E/\IntKind.u8.wrap E<=255:=by simp[IntKind.wrap,IntKind.bits,IntKind.signed];omega
structure Pa (p:ck) (h:fv) (st:Int) (q:ck):Prop where
 g:q.g=p.g
 wf:gK q
 h:q.h=h
 st:q.state=st
 most:q.most=p.most
 dec:q.dec=p.dec
def Am(b:fv)(c:Int)(d:World):Ending->World->Prop:=aX (λ_:ck=> .tuple #[]) (eB a) eB (Pa a b c) d
def Pa.any{q:ck}(a:Pa s G B q):Pa s q.h B q:=⟨a.g,a.wf,rfl,a.st,a.most,a.dec⟩
def ag.Dw{w:World}(a:ag o H m w)(b:aP m [V] O):ag o H [V,iV.aD,iV.aD,iV.aD] w:=by
 have c:=(((a.aF b).e4 5 cI).e4 5 cI).e4 5 cI
 exact c.aF ah
def Jl(c:bc d (eB a))(b:gK a):
 ay 338 [gT a.g] d (Am a Dr a.state d):=by
 refine bX func338 ntmps338 c ?_;refine aU ?_;exact λf e=>aX.cf { a with pre:=0,head:=iV,inter:=iV,text:=iV,last:=0,ki:=true,cut:=false } ⟨rfl,⟨by simp,by simp,by have:=b.most;simp;omega,b.most,b.dec,by simp⟩,rfl,rfl,rfl,rfl⟩ rfl<|e.Dw ah
def tF(k:bc d (eB a))(b:gK a)(e:UInt8):
 ay 248 [gT a.g,.int .u8 (e.toNat:Int)] d (Am a (Ag a.h e) a.state d):=by
 have t:=b.inter
 refine bX func248 ntmps248 k ?_;refine (aE) (λm=>?_) λm=>bP ?_;have n:Ag a.h e=Dr:=aB (by show a.inter.l.length=2;omega)
 refine aA ?_;refine dE (Jl · a · b) λi f=>?_;refine ap ?_;have o:i.ki=true:=a_ fv.ki f.h
 have u:=f.wf.inter
 rw[n,<-f.g];refine aY ?_;refine cD rfl (λc=>?_) λc=>?_;simp only[cq] at c
 refine aU ?_;refine ef (E:=cI) _ hC rfl rfl rfl rfl rfl λp q r=>fu (E:=cI) hC rfl rfl rfl bx (λ_ _=>l4) cg cg λv w=>aI ?_;exact λs j=>Bool.noConfusion<|o.symm.trans c
 simp only[cq] at c
 refine aA ?_;exact bT i f;refine cD rfl (λc=>?_) λc=>?_;simp only[cq] at c
 refine aU ?_;refine ef (E:=cI) _ hC rfl rfl rfl rfl rfl λp q r=>fu (E:=cI) hC rfl rfl rfl bx (λ_ _=>l4) cg cg λx y=>aI ?_;exact λs j=>aX.cf { a with inter:=⟨_,_,a.inter.l++[e]⟩ } ⟨rfl,⟨b.head,by simp;omega,b.text,b.most,b.dec,b.aj⟩,by rw[Ag,ai<|by show ¬a.inter.l.length=2;omega,ai<|by show ¬a.ki=true;simp[*]];rfl,rfl,rfl,rfl⟩ rfl<|j.aF ah
 simp only[cq] at c
 refine aA ?_;exact bT a ⟨rfl,b,by rw[Ag,ai<|by show ¬a.inter.l.length=2;omega,aB bR],rfl,rfl,rfl⟩
def xE :ck:={ a with pre:=0,head:=iV,inter:=iV,text:=iV,last:=0,ki:=false,cut:=false }
def jr(e:bc d (eB a))(b:gK a)(c:Int):
 ay 107 [gT a.g,ad c] d (Am a eA c d):=by
 refine bX func107 ntmps107 e ?_;refine cn ?_;exact λh f=>aX.cf { xE a with state:=c } ⟨rfl,⟨by simp[xE],by simp[xE],by have:=b.most;simp[xE];omega,b.most,b.dec,by simp[xE]⟩,rfl,rfl,rfl,rfl⟩ rfl<|f.Dw ah
def An :fv:=if E<=I.text.length then { I with cut:=true } else { I with text:=I.text++[v] }
def Dx(f:bc d (eB a))(b:gK a)(c:UInt8):
 ay 172 [gT a.g,.int .u8 (c.toNat:Int)] d (Am a (An a.h a.most c) a.state d):=by
 have j:=b.text
 have k:=b.most
 refine bX func172 ntmps172 f ?_;refine aA ?_;refine bN [0,1,2,3,4,5,6,7,8,9,10] 0 [[]] ?_;refine (aE) (λe=>b6 ?_) λe=>be ?_;exact bT { a with cut:=true } ⟨rfl,⟨b.head,b.inter,b.text,b.most,b.dec,b.aj⟩,by rw[An,aB<|by exact e];rfl,rfl,rfl,rfl⟩;refine ef (E:=cI) _ hC rfl rfl rfl rfl rfl λm n o=>fu (E:=cI) hC rfl rfl rfl bx (λ_ _=>oH) cg cg λp q=>aH ?_;exact λr i=>aX.cf { a with text:=⟨_,_,a.text.l++[c]⟩ } ⟨rfl,⟨b.head,b.inter,by simp;omega,b.most,b.dec,b.aj⟩,by rw[An,ai<|by exact e];rfl,rfl,rfl,rfl⟩ rfl<|i.aF ah
def Dy :Prop:=a.ki=false/\(v.toNat:Int)<60/\a.inter.l.length=0/\a.head.l.length<256
def Tn(c:World):Ending->World->Prop:=aX (λ_:ck=> .tuple #[]) (eB a) eB (λb=>Pa a b.h a.state b/\(Dy a v->b.h= { a.h with head:=a.h.head++[v] })) c
def To(q:bc d (eB a))(c:gK a)(f:UInt8):
 ay 249 [gT a.g,.int .u8 (f.toNat:Int)] d (Tn a f d):=by
 have x:=c.head
 refine bX func249 ntmps249 q ?_;refine be ?_;refine cD rfl (λo=>ap ?_) λo=>av ?_;exact bT a ⟨⟨rfl,c,rfl,rfl,rfl,rfl⟩,λb=>absurd (b.1.symm.trans o) aW⟩;refine gA (λh:Bool=>[(0,gT a.g),(1,.int .u8 (f.toNat:Int)),(19,.bool h)]) (λ_=>ag d (aK<|eB a)<|eB a) (λh=>h=true->60<=(f.toNat:Int)) ?_ ?_;refine a7 ?_;refine bl 22 rfl (λj=>?_) λj=>?_;have r:=bg j
 refine b6 ?_;refine bl 29 rfl (λe=>?_) λe=>?_;have m:=bg e
 refine cZ ?_;refine bl 37 rfl (λi=>?_) λi=>?_;have n:=bg i
 refine dO ?_
 (refine dN _ ?_ (ed rfl rfl rfl) λ_ b=>b;exact λ_=>by omega)
 have n:=bm i
 refine a6 ?_
 (refine dN _ ?_ (ed rfl rfl rfl) λ_ b=>b;exact λb=>absurd b aW)
 have m:=bm e
 refine ft ?_
 (refine dN _ ?_ (ed rfl rfl rfl) λ_ b=>b;exact λb=>absurd b aW)
 have r:=bm j
 refine lB ?_
 (refine dN _ ?_ (ed rfl rfl rfl) λ_ b=>b;exact λb=>absurd b aW)
 rintro h s;refine av ?_;refine cD rfl (λj=>a6 ?_) λj=>av ?_;exact bT { a with pre:=f.toNat } ⟨⟨rfl,⟨c.head,c.inter,c.text,c.most,c.dec,r_ f,c.aj.2⟩,rfl,rfl,rfl,rfl⟩,λb=>by have:=s j;have:=b.2.1;omega⟩;refine gA (λh:Bool=>[(0,gT a.g),(1,.int .u8 (f.toNat:Int)),(49,.bool h)]) (λ_=>ag d (aK<|eB a)<|eB a) (λh=>(h=true-> ¬Dy a f)/\(h=false->a.head.l.length≠256)) ?_ ?_;refine a7 ?_;refine bl 52 rfl (λe=>?_) λe=>?_;have m:=bg e
 refine ft ?_
 (refine dN _ ?_ (ed rfl rfl rfl) λ_ b=>b;exact⟨λ_ k=>absurd k.2.1 aa,λb=>absurd b aW⟩)
 have m:=bm e
 refine cZ ?_;refine bl 60 rfl (λi=>?_) λi=>?_;have n:=bg i
 refine a6 ?_
 (refine dN _ ?_ (ed rfl rfl rfl) λ_ b=>b;exact⟨λ_ k=>absurd k.2.2.1 aa,λb=>absurd b aW⟩)
 have n:=bm i
 refine dO ?_
 (refine dN _ ?_ (ed rfl rfl rfl) λ_ b=>b;exact⟨λb k=>by have t:=bg b;have y:=k.2.2.2;omega,λb=>by have t:=bm b;omega⟩)
 rintro z p;refine av ?_;refine cD rfl (λe=>aA ?_) λe=>?_;refine dE (Jl · a · c) λu v=>?_;refine ap ?_;exact bT u ⟨v.any,λb=>absurd b<|p.1 e⟩;have A:=p.2 e
 refine aU ?_;refine ef (E:=cI) _ hC rfl rfl rfl rfl rfl λB C D=>fu (E:=cI) hC rfl rfl rfl bx (λ_ _=>fs) cg cg λE F=>aH ?_;intro G w
 (refine aX.cf { a with head:=⟨_,_,a.head.l++[f]⟩ } ?_ rfl<|w.aF ah;exact⟨⟨rfl,⟨by simp;omega,c.inter,c.text,c.most,c.dec,c.aj⟩,rfl,rfl,rfl,rfl⟩,λ_=>rfl⟩)
def Rd.loc{c:b1 W}{l:List W}(b:Rd c o M f u J l)(e: ∀a,M a->P.heap[a]? = o.heap[a]?):Rd c P M f u J l:=by
 refine⟨b.len,b.cap,b.max,λg=>?_⟩;obtain⟨h,i,d,j⟩:=b.cells g;refine⟨h,i,d,λa k m n p q=>?_⟩;have r:=j a k m n p q
 rw[World.cell?_of_block (w:=o) (w':=P) (by rw[block_add,block_add];exact e _ d)];exact r
def e3.loc{gs:List (List Int)}(c:cp.e3 o M f u J gs)(b: ∀a,M a->P.heap[a]? = o.heap[a]?):cp.e3 P M f u J gs:=by
 obtain⟨d,e,g,h⟩:=c;exact⟨d,Rd.loc e b,g,λa i j k l=>Rd.loc (h a i j k l) b⟩
structure mm where
 A:Option Addr
 n:Nat
 c:Nat
 bZ:Nat
 aw:Nat
 gs:List (List Int)
abbrev mm.val(a:mm):Value:= .slice a.A a.n a.c
abbrev sa:mm:=⟨none,0,0,0,0,[]⟩
def mm.aQ(a:mm):Chunk:=tE a.bZ a.aw (cp.e3 · (λb=>a.bZ<=b/\b<a.aw) a.A a.n a.c a.gs) λ_ _ e f=>e3.loc f λb d=>e b d.1 d.2
structure qR (x:mm):Prop where
 n:x.gs.length<=1000
 g: ∀g∈x.gs,g.length<=1000
def Jm(w:World):sa.aQ.pred w:=⟨by simp,cp.e3.nil w _⟩
def Jn:sa.aQ.cT=[]:=rfl
def Dz:qR sa:=⟨by simp,by simp⟩
def mn :List (List Int):=if cp.hQ F=true then cp.tB F else []
def Tp(f:F.length<=1000000):
 ay 245 [bU F] d (gr (λa:mm × Bool=> .tuple #[a.1.val,.bool a.2]) (λa=>a.1.aQ) (λa=>qR a.1/\a.1.gs=mn F) d):=by
 refine (cp.Ss d F f).mono ?_;intro n e b;unfold cp.z8 at b
 split at b
 obtain⟨g,h,i,rfl,c,j⟩:=b;refine⟨(⟨g,h,i,d.heap.size,e.heap.size,cp.tB F⟩,true),⟨⟨?_,?_⟩,by unfold mn;rw[aB bR]⟩,rfl,c,⟨λ_=>cC _,j.iz⟩,?_,Ac _ _ _ _⟩;show (cp.tB F).length<=1000
 have:=cp.xv 59 32 F
 simp[cp.tB]
 omega
 intro o k;obtain⟨l,_,rfl⟩:=ei.1 k;have:=cp.xv 58 8 l
 simp[cp.kf]
 omega
 exact λp m=>(p8.1 m).1
 obtain⟨rfl,c⟩:=b;exact⟨(sa,false),⟨Dz,by unfold mn;rw[ai bR]⟩,rfl,c,Jm e,by rw[Jn];simp,by rw[Jn];simp⟩
structure eO where
 kind:Int
 r:Int
 byte:Int
 pre:Int
 nums:mm
 inter:List UInt8
 text:List UInt8
 cut:Bool
abbrev eO.enc(a:eO):List Value:=[ad a.kind,.int .i32 a.r,.int .u8 a.byte,.int .u8 a.pre,a.nums.val,bU a.inter,bU a.text,.bool a.cut]
def fO:b1 eO:=⟨eO.enc,8,λ_=>rfl,λ_=>by repeat (first | exact aV.nil | refine aV.cons rfl ?_)⟩
structure hH where
 A:Option Addr
 c:Nat
 l:List eO
abbrev hH.val(a:hH):Value:= .slice a.A a.l.length a.c
abbrev hH.aD(a:hH):Chunk:=Mq.aD 129 fO a.A a.c a.l
abbrev hH.cw(a:hH):Chunk:=aZ<|a.l.map λb=>b.nums.aQ
structure fW where
 kind:Int
 r:Int
 byte:Int
 pre:Int
 inter:List UInt8
 text:List UInt8
 cut:Bool
 nums:List (List Int)
def eO.abs(a:eO):fW:=⟨a.kind,a.r,a.byte,a.pre,a.inter,a.text,a.cut,a.nums.gs⟩
structure n0 (e:eO):Prop where
 nums:qR e.nums
 inter:e.inter.length<=1000
 text:e.text.length<=100000
 u8: (0<=e.byte/\e.byte<=255)/\0<=e.pre/\e.pre<=255
abbrev vy(b:hH):List Chunk:=[a.aq,a.head.aD,a.inter.aD,a.text.aD,b.aD,b.cw]
structure vz (p:ck) (k:Nat) (R:ck->List fW->Prop) (i:ck × hH):Prop where
 g:i.1.g=p.g
 wf:gK i.1
 most:i.1.most=p.most
 len:i.2.l.length<=k
 ok: ∀e∈i.2.l,n0 e
 R:R i.1 (i.2.l.map eO.abs)
def eg(c:ck->List fW->Prop)(d:World):Ending->World->Prop:=
 aX (λb:ck × hH=>b.2.val) (eB a) (λb=>vy b.1 b.2) (vz a X c) d
def ag.DA{w:World}(f:ag o H m w)(b:List eO)(e: ∀a∈b,a.nums=sa):ag o H (aZ (b.map λa=>a.nums.aQ)::m) w:=by
 refine f.pb (λg c=>?_) ?_;obtain⟨a,d,rfl⟩:=ei.1 c;rw[e a d];exact Jm w;show aK (b.map λa=>a.nums.aQ)=[]
 rw[aK,List.flatMap_eq_nil_iff];intro g c;obtain⟨a,d,rfl⟩:=ei.1 c;rw[e a d];rfl
def ag.DB{w:World}{a:List Chunk}(b:ag o H (aZ O::aZ a::m) w):ag o H (aZ (O++a)::m) w:=by
 have c:ag o H (aZ a::(O++m)) w:=b.mQ.perm p_
 have d:ag o H ((O++a)++m) w:=c.mQ.perm (by
  rw[<-ec];exact List.perm_append_comm.append_right m)
 exact d.close'
def DC(a:eO):Prop:=a.nums=sa/\a.inter.length<=1000/\a.text.length<=100000/\(0<=a.byte/\a.byte<=255)/\0<=a.pre/\a.pre<=255
def DC.ok{e:eO}(a:DC e):n0 e:=⟨a.1▸Dz,a.2.1,a.2.2.1,a.2.2.2⟩
variable {t:ck->List fW->Prop}
def eg.z{es:List eO}(d:K.g=s.g)(e:gK K)(h:K.most=s.most)(c: ∀a∈es,DC a)(i:es.length<=u)(j:t K (es.map eO.abs))
 (k:ag o (aK<|eB s) m P) (l:aP m [K.aq,K.head.aD,K.inter.aD,K.text.aD,aD 129 fO f J es] O):eg s u t o (.returned<|.slice f es.length J) P:=
 aX.cf (K,⟨f,J,es⟩) ⟨d,e,h,i,λa b=>(c a b).ok,j⟩ rfl (((k.aF l).DA es λa b=>(c a b).1).aF ah)
def eg.n{q:ck}(a:q.g=s.g)(b:gK q)(c:q.most=s.most)(d:t q [])
 (e:ag o (aK<|eB s) m P) (f:aP m [q.aq,q.head.aD,q.inter.aD,q.text.aD] O):eg s u t o (.returned<|.slice none 0 0) P:=
 eg.z (es:=[]) a b c au au d ((e.aF f).e4 129 fO) ah
def eg.w{e:eO}(a:K.g=s.g)(b:gK K)(c:K.most=s.most)(d:n0 e)(h:1<=u)(i:t K [e.abs])
 (j:ag o (aK<|eB s) m P) (k:aP m [K.aq,K.head.aD,K.inter.aD,K.text.aD,aD 129 fO f J [e],e.nums.aQ] O):eg s u t o (.returned<|.slice f 1 J) P:=
 aX.cf (K,⟨f,J,[e]⟩) ⟨a,b,c,by simpa using h,by simpa using d,i⟩ rfl (((j.aF k).close (l:=[e.nums.aQ]) ah).aF ah)
def Jo(m:bc d (eB a))(c:gK a)(h e:Int)(n:0<=e/\e<=255):
 ay 170 [gT a.g,ad h,.int .u8 e] d (aX (λb:eO=> .agg b.enc.toArray) (eB a) (λb=>[a.aq,a.head.aD,a.inter.aD,a.text.aD,b.nums.aQ]) (λb=>n0 b/\b.abs=⟨h,0,e,a.pre,a.inter.l,a.text.l,a.cut,mn a.head.l⟩) d):=by
 refine bX func170 ntmps170 m ?_;refine ap ?_;intro r s t;refine a6 ?_;refine kF underlying48 underlying5 underlying9 rfl rfl (λj f=>hF<|f.has cW) ?_;refine hf (λo u=>Tp o a.head.l (by have:=c.head;omega)) λp k=>?_;refine aY ?_;refine bN [0,1,2,3,4,5,6,7,8,9,10,11,12,13,14,15,16,17,18,19,20,21,22,23,24,25] 1 [[(26,true,[])]] ?_;refine cn ?_;refine aO rfl (λq i=>(kF underlying48 underlying5 underlying9 rfl rfl (λj f=>by subst f;exact hF<|i.has j4) aJ)) ?_;refine aI ?_;refine aO rfl (λq i=>(kF underlying48 underlying5 underlying9 rfl rfl (λj f=>by subst f;exact hF<|i.has kG) aJ)) ?_;refine dO ?_;exact bT ⟨h,0,e,a.pre,p.1,a.inter.l,a.text.l,a.cut⟩ ⟨⟨k.1,by have:=c.inter;simp;omega,by have:=c.text;have:=c.most;simp;omega,n,c.aj.1⟩,by simp only[eO.abs,k.2]⟩
abbrev fC(a b:Int)(c d:List UInt8)(e:Bool):eO:=⟨E,Q,a,b,sa,c,d,e⟩
def Tq(a:gK s):s.text.l.length<=100000:=by have:=a.text;have:=a.most;omega
def DD(p:bc d (eB a))(e:gK a):
 ay 108 [gT a.g] d (eg a 1 (λq db=>q=a/\(a.state=4->db=[⟨4,0,0,0,[],a.text.l,a.cut,[]⟩])/\(a.state≠4->a.state≠3->db=[])) d):=by
 refine bX func108 ntmps108 p ?_;refine (aE) (λf=>av ?_) λf=>aY ?_;refine bN [0,1,2,3,4,5,6,7,8,9,10,11] 1 [[(12,false,[13])]] ?_;refine aI ?_;refine aO rfl (λx r=>(kF underlying48 underlying5 underlying9 rfl rfl (λy s=>by subst s;exact hF<|r.has hL) aJ)) ?_;refine aY ?_;refine ef (E:=fO) ⟨_,_,_,_,⟨_,_,_,0,0,[]⟩,_,_,_⟩ iA rfl rfl rfl rfl rfl λA B C=>cv (λ_=>True) (λ_ b=> .inr<|b.rem bH.head) (λ_ b=>bh)<|aY ?_;exact λi c=>eg.z (es:=[fC 4 0 0 0 [] a.text.l a.cut]) rfl e rfl (by simpa using ⟨rfl,by simp[fC],Tq e,by dsimp only[fC];omega⟩) au ⟨rfl,λ_=>rfl,λb=>absurd f b⟩ c ah
 refine bl 28 rfl (λj=>?_) λj=>?_;have m:=bg j
 refine cZ ?_;refine bl 36 rfl (λk=>?_) λk=>?_;have t:=bg k
 refine fa ?_;refine cD rfl (λh=>?_) λh=>?_;have u:=h
 simp only[cq] at h
 refine aY ?_;refine (dg) (Jo · a · e _ _ e.aj.2) λo v=>?_;refine ef (E:=fO) o iA rfl rfl rfl rfl rfl λD E F=>aU ?_;exact λi c=>eg.w (e:=o) rfl e rfl v.1 aa ⟨rfl,λb=>absurd b f,λ_ b=>absurd m b⟩ c ah
 have u:=h
 simp only[cq] at h
 refine be ?_;exact λi c=>eg.n rfl e rfl ⟨rfl,λb=>absurd b f,λ_ _=>rfl⟩ c ah
 have t:=bm k
 refine lb ?_;exact λi c=>eg.n rfl e rfl ⟨rfl,λb=>absurd b f,λ_ _=>rfl⟩ c ah
 have m:=bm j
 refine B1 ?_;exact λi c=>eg.n rfl e rfl ⟨rfl,λb=>absurd b f,λ_ _=>rfl⟩ c ah
def nc :Option ((fv × Int) × List fW):=
 if (48<=(v.toNat:Int)/\(v.toNat:Int)<60)/\I.ki=false/\I.inter.length=0/\I.head.length<256 then some (({ I with head:=I.head++[v] },2),[])
 else if (64<=(v.toNat:Int)/\(v.toNat:Int)<127)/\I.ki=false then some ((eA,0),[⟨3,0,v.toNat,I.pre,I.inter,I.text,I.cut,mn I.head⟩])
 else none
def xF(a: (C.toNat:Int)<48\/127<=(C.toNat:Int)):nc G C=none:=by
 unfold nc;rw[ai aa,ai aa]
def dZ(a:UInt8):Option ((fv × Int) × List fW):=
 if E=0 then
  if (a.toNat:Int)=27 then some ((eA,1),[])
  else if (a.toNat:Int)=24\/(a.toNat:Int)=26\/127<=(a.toNat:Int) then none
  else if (a.toNat:Int)<32 then some ((I,0),[⟨1,0,a.toNat,0,[],[],false,[]⟩])
  else some ((I,0),[⟨0,a.toNat,0,0,[],[],false,[]⟩])
 else if E=1 then (if ((a.toNat:Int)=93\/(a.toNat:Int)=91)/\I.inter.length=0/\I.ki=false then some ((eA,if (a.toNat:Int)=93 then 4 else 2),[]) else none)
 else if E=4 then
  if (a.toNat:Int)=7 then some ((eA,0),[⟨4,0,0,0,[],I.text,I.cut,[]⟩])
  else if 32<=(a.toNat:Int)/\(a.toNat:Int)<127/\(I.text.length:Int)<Q then some (({ I with text:=I.text++[a] },4),[])
  else none
 else if E=2 then nc I a else none
def vA:List Int->Option (List fW)
 | []=>some []
 | [a]=>if 160<=a then some [⟨0,a,0,0,[],[],false,[]⟩] else none
 | _=>none
def kW(c:ck)(db:List fW):Prop:=
 nb c.dec/\(a.dec.eH=0->a.dec.fN=0-> ∀b,dZ a.h a.state a.most v=some b->c.dec=a.dec/\c.h=b.1.1/\c.state=b.1.2/\db=b.2)/\(a.state=0->128<=(v.toNat:Int)-> ∀b d,iG a.dec v=some b->vA b.2=some d->c.dec=b.1/\c.h=a.h/\c.state=0/\db=d)
def Jp(E:bc d (eB a))(e:gK a)(k:Int)(J:0<=k/\k<=255):
 ay 169 [gT a.g,.int .u8 k] d (eg a 1 (λq db=>q.dec=a.dec/\(a.inter.l.length=0->a.ki=false->k=93\/k=91->q.h=eA/\q.state=(if k=93 then 4 else 2)/\db=[])) d):=by
 have K:=e.inter
 refine bX func169 ntmps169 E ?_;refine fa ?_;refine bl 13 rfl (λr=>?_) λr=>?_;have F:=bg r
 refine dO ?_;refine cD rfl (λm=>?_) λm=>?_;simp only[cq] at m
 refine (aE) (λo=>ap ?_) λo=>?_;refine (dg) (jr · a · e _) λf b=>?_;refine bP ?_;exact λi c=>eg.n b.g b.wf b.most ⟨b.dec,λ_ _ j=>⟨b.h,by have:=b.st;split <;> omega,rfl⟩⟩ c ah
 refine (aE) (λG=>ap ?_) λG=>?_;refine (dg) (jr · a · e _) λf b=>?_;refine bP ?_;exact λi c=>eg.n b.g b.wf b.most ⟨b.dec,λ_ _ j=>⟨b.h,by have:=b.st;split <;> omega,rfl⟩⟩ c ah
 refine (aE) (λH=>ap ?_) λH=>?_;refine (dg) (jr · a · e _) λf b=>?_;refine bP ?_;exact λi c=>eg.n b.g b.wf b.most ⟨b.dec,λ_ _ j=>⟨b.h,by have:=b.st;split <;> omega,rfl⟩⟩ c ah
 refine (aE) (λs=>?_) λs=>?_;have x:=s
 refine aA ?_;refine e_ rfl ((bI x))<|ap ?_;refine (dg) (jr · a · e _) λf b=>?_;refine bP ?_;exact λi c=>eg.n b.g b.wf b.most ⟨b.dec,λ_ _ j=>⟨b.h,by have:=b.st;split <;> omega,rfl⟩⟩ c ah
 have x:=s
 refine (aE) (λt=>?_) λt=>?_;have y:=t
 refine aA ?_;refine e_ rfl ((bI y))<|ap ?_;refine (dg) (jr · a · e _) λf b=>?_;refine bP ?_;exact λi c=>eg.n b.g b.wf b.most ⟨b.dec,λ_ _ j=>⟨b.h,by have:=b.st;split <;> omega,rfl⟩⟩ c ah
 have y:=t
 refine (aE) (λI=>ap ?_) λI=>fT ?_;refine (dg) (jr · a · e _) λf b=>?_;refine bP ?_;exact λi c=>eg.n b.g b.wf b.most ⟨b.dec,λ_ _ j=>⟨b.h,by have:=b.st;split <;> omega,rfl⟩⟩ c ah
 refine cD rfl (λu=>?_) λu=>?_;simp only[cq] at u
 refine aU ?_;refine kF underlying48 underlying5 underlying9 rfl rfl (λA p=>hF<|p.has cW)<|av ?_;refine ef (E:=fO) ⟨_,_,_,_,⟨_,_,_,0,0,[]⟩,_,_,_⟩ iA rfl rfl rfl rfl rfl λB C D=>aH ?_;refine (dg) (jr · a · e _) λf b=>?_;refine be ?_;exact λi c=>eg.z (es:=[fC 2 0 k 0 a.inter.l [] false]) b.g b.wf b.most (by simpa using ⟨rfl,by simp[fC];omega,by simp[fC],by dsimp only[fC];omega⟩) au ⟨b.dec,λv w j=>by omega⟩ c ah
 simp only[cq] at u
 refine aI ?_;refine (dg) (jr · a · e _) λf b=>?_;refine be ?_;exact λi c=>eg.n b.g b.wf b.most ⟨b.dec,λ_ _ j=>⟨b.h,by have:=b.st;split <;> omega,rfl⟩⟩ c ah
 simp only[cq] at m
 refine gQ ?_;refine cD rfl (λo=>?_) λo=>?_;simp only[cq] at o
 refine aU ?_;refine kF underlying48 underlying5 underlying9 rfl rfl (λA p=>hF<|p.has cW)<|av ?_;refine ef (E:=fO) ⟨_,_,_,_,⟨_,_,_,0,0,[]⟩,_,_,_⟩ iA rfl rfl rfl rfl rfl λB C D=>aH ?_;refine (dg) (jr · a · e _) λf b=>?_;refine be ?_;exact λi c=>eg.z (es:=[fC 2 0 k 0 a.inter.l [] false]) b.g b.wf b.most (by simpa using ⟨rfl,by simp[fC];omega,by simp[fC],by dsimp only[fC];omega⟩) au ⟨b.dec,λv w j=>by (simp_all;done)⟩ c ah
 simp only[cq] at o
 refine aI ?_;refine (dg) (jr · a · e _) λf b=>?_;refine be ?_;exact λi c=>eg.n b.g b.wf b.most ⟨b.dec,λv w j=>by (simp_all;done)⟩ c ah
 have F:=bm r
 refine y8 ?_;refine cD rfl (λm=>?_) λm=>?_;simp only[cq] at m
 refine aU ?_;refine kF underlying48 underlying5 underlying9 rfl rfl (λA p=>hF<|p.has cW)<|av ?_;refine ef (E:=fO) ⟨_,_,_,_,⟨_,_,_,0,0,[]⟩,_,_,_⟩ iA rfl rfl rfl rfl rfl λB C D=>aH ?_;refine (dg) (jr · a · e _) λf b=>?_;refine be ?_;exact λi c=>eg.z (es:=[fC 2 0 k 0 a.inter.l [] false]) b.g b.wf b.most (by simpa using ⟨rfl,by simp[fC];omega,by simp[fC],by dsimp only[fC];omega⟩) au ⟨b.dec,λv w j=>by omega⟩ c ah
 simp only[cq] at m
 refine aI ?_;refine (dg) (jr · a · e _) λf b=>?_;refine be ?_;exact λi c=>eg.n b.g b.wf b.most ⟨b.dec,λ_ _ j=>⟨b.h,by have:=b.st;split <;> omega,rfl⟩⟩ c ah
def Jq(j:bc d (eB a))(f:gK a)(c:UInt8):
 ay 173 [gT a.g,.int .u8 (c.toNat:Int)] d (eg a 1 (λe db=>e.dec=a.dec/\(a.inter.l.length=0->a.ki=false->(c.toNat:Int)=93\/(c.toNat:Int)=91->e.h=eA/\e.state=(if (c.toNat:Int)=93 then 4 else 2)/\db=[])) d):=by
 refine bX func173 ntmps173 j ?_;refine (aE) (λk=>aH ?_) λk=>aH ?_;refine dE (tF · a · f c) λi b=>?_;refine be ?_;exact λo m=>eg.n b.g b.wf b.most ⟨b.dec,λ_ _ p=>by omega⟩ m ah
 refine (dg) (Jp · a · f _ (r_ _)) λi b=>?_;refine aI ?_;exact bT i ⟨b.g,b.wf,b.most,b.len,b.ok,b.R⟩
variable {j:(fv × Int) × List fW}
def Tr(a:nc s.h C=some j)(c: (C.toNat:Int)<64):Dy s C/\j=(({ s.h with head:=s.h.head++[C] },2),[]):=by
 unfold nc at a
 split at a
 rename_i b;cases a;exact⟨⟨b.2.1,b.1.2,b.2.2⟩,rfl⟩
 rw[ai aa] at a;cases a
def Ts(a:nc G C=some j):G.ki=false:=by
 unfold nc at a
 split at a
 rename_i b;exact b.2.1
 split at a
 rename_i b;exact b.2
 cases a
def Tt(a:nc G C=some j)(b:64<=(C.toNat:Int)):j=((eA,0),[⟨3,0,C.toNat,G.pre,G.inter,G.text,G.cut,mn G.head⟩]):=by
 unfold nc at a
 rw[ai aa] at a
 split at a
 cases a;rfl
 cases a
def Jr(t:bc d (eB a))(c:gK a)(j:UInt8):
 ay 174 [gT a.g,.int .u8 (j.toNat:Int)] d (eg a 1 (λm db=>m.dec=a.dec/\(a.state=2-> ∀f,nc a.h j=some f->m.h=f.1.1/\m.state=f.1.2/\db=f.2)) d):=by
 refine bX func174 ntmps174 t ?_;refine (aE) (λu=>aH ?_) λu=>?_;refine dE (tF · a · c j) λo b=>?_;refine bP ?_;exact λk e=>eg.n b.g b.wf b.most ⟨b.dec,λ_ f i=>by rw[xF aa] at i;cases i⟩ e ah
 refine (aE) (λv=>aH ?_) λv=>?_;refine dE (To · a · c j) λo b=>?_;refine bP ?_;exact λk e=>eg.n b.1.g b.1.wf b.1.most ⟨b.1.dec,λp f i=>by obtain⟨x,rfl⟩:=Tr i aa;exact⟨b.2 x,b.1.st.trans p,rfl⟩⟩ e ah
 refine (aE) (λy=>fT ?_) λy=>fT ?_;exact λk e=>eg.n (q:={ a with last:=j.toNat }) rfl ⟨c.head,c.inter,c.text,c.most,c.dec,c.aj.1,r_ j⟩ rfl ⟨rfl,λp=>by omega⟩ e ah
 refine cD rfl (λl=>?_) λl=>?_;simp only[cq] at l
 refine ap ?_;refine (dg) (Jo · a · c _ _ (r_ _)) λq r=>?_;refine ef (E:=fO) q iA rfl rfl rfl rfl rfl λz A B=>aH ?_;refine (dg) (jr · a · c _) λo b=>?_;refine be ?_;exact λk e=>eg.w (e:=q) b.g b.wf b.most r.1 aa ⟨b.dec,λp f i=>by rw[Tt i aa];exact⟨b.h,b.st,by rw[r.2];rfl⟩⟩ e ah
 simp only[cq] at l
 refine aI ?_;refine (dg) (jr · a · c _) λo b=>?_;refine be ?_;exact λk e=>eg.n b.g b.wf b.most ⟨b.dec,λ_ f i=>by have s:a.ki=false:=Ts i;rw[l] at s;cases s⟩ e ah
def qS(a:dZ G 4 B C=some j):
 ((C.toNat:Int)=7/\j=((eA,0),[⟨4,0,0,0,[],G.text,G.cut,[]⟩]))\/((C.toNat:Int)≠7/\32<=(C.toNat:Int)/\(C.toNat:Int)<127/\(G.text.length:Int)<B/\j=(({ G with text:=G.text++[C] },4),[])):=by
 unfold dZ at a
 rw[ai aW,ai aW,aB rfl] at a
 split at a
 exact .inl ⟨bR,by simpa using a.symm⟩;split at a
 rename_i c b;exact .inr ⟨c,b.1,b.2.1,b.2.2,by simpa using a.symm⟩;cases a
def DE(G:bc d (eB a))(j:gK a)(r:UInt8):
 ay 110 [gT a.g,.int .u8 (r.toNat:Int)] d (eg a 1 (λx db=>x.dec=a.dec/\ ∀i,a.state=4->dZ a.h a.state a.most r=some i->x.h=i.1.1/\x.state=i.1.2/\db=i.2) d):=by
 refine bX func110 ntmps110 G ?_;refine dO ?_;refine bl 12 rfl (λy=>?_) λy=>?_;have H:=bg y
 refine fa ?_;refine cD rfl (λm=>?_) λm=>?_;have I:=m
 simp only[cq] at m
 refine ap ?_;refine dE (Dx · a · j r) λq b=>?_;refine be ?_;exact λl f=>eg.n b.g b.wf b.most ⟨b.dec,λi e c=>by omega⟩ f ah
 have I:=m
 simp only[cq] at m
 refine (aE) (λu=>be ?_) λu=>?_;exact λl f=>eg.n rfl j rfl ⟨rfl,λi e c=>by exact absurd e u⟩ f ah
 refine (aE) (λs=>ap ?_) λs=>aI ?_;refine dE (DD · a · j) λz k=>?_;refine av ?_;obtain⟨A,B,C,D⟩:=z;obtain⟨o,E,J⟩:=k.R;replace o:a=A:=o.symm
 subst o;have F:=k.wf
 refine aI ?_;refine (dg) (jr · a · F _) λq b=>?_;refine b6 ?_;exact bT (q,⟨B,C,D⟩) ⟨b.g,b.wf,b.most,k.len,k.ok,b.dec,λi e c=>by rw[e] at c;rcases qS c with ⟨_,rfl⟩ | ⟨p,_⟩;exact⟨b.h,b.st,E e⟩;omega⟩;refine bl 40 rfl (λt=>?_) λt=>?_;have K:=bg t
 refine (aE) (λL=>ap ?_) λL=>be ?_;refine dE (Dx · a · j r) λq b=>?_;refine be ?_;exact λl f=>eg.n b.g b.wf b.most ⟨b.dec,λi e c=>by omega⟩ f ah
 exact λl f=>eg.n rfl j rfl ⟨rfl,λi e c=>by (rw[e] at c;rcases qS c with ⟨p,_⟩ | ⟨_,v,w,_,_⟩ <;> omega)⟩ f ah
 have K:=bm t
 refine ft ?_;exact λl f=>eg.n rfl j rfl ⟨rfl,λi e c=>by (rw[e] at c;rcases qS c with ⟨p,_⟩ | ⟨_,v,w,_,_⟩ <;> omega)⟩ f ah
 have H:=bm y
 refine (aE) (λm=>be ?_) λm=>?_;exact λl f=>eg.n rfl j rfl ⟨rfl,λi e c=>by (rw[e] at c;rcases qS c with ⟨p,_⟩ | ⟨_,v,w,_,_⟩ <;> omega)⟩ f ah
 refine (aE) (λu=>ap ?_) λu=>aI ?_;refine dE (DD · a · j) λz k=>?_;refine av ?_;obtain⟨A,B,C,D⟩:=z;obtain⟨o,E,J⟩:=k.R;replace o:a=A:=o.symm
 subst o;have F:=k.wf
 refine aI ?_;refine (dg) (jr · a · F _) λq b=>?_;refine b6 ?_;exact bT (q,⟨B,C,D⟩) ⟨b.g,b.wf,b.most,k.len,k.ok,b.dec,λi e c=>by rw[e] at c;rcases qS c with ⟨_,rfl⟩ | ⟨p,_⟩;exact⟨b.h,b.st,E e⟩;omega⟩;refine bl 40 rfl (λs=>?_) λs=>?_;have M:=bg s
 refine (aE) (λt=>ap ?_) λt=>be ?_;refine dE (Dx · a · j r) λq b=>?_;refine be ?_;exact λl f=>eg.n b.g b.wf b.most ⟨b.dec,λi e c=>by (rw[e] at c;rcases qS c with ⟨p,_⟩ | ⟨_,_,_,N,rfl⟩;omega;exact⟨by rw[b.h,An,ai aa],by rw[b.st,e],rfl⟩)⟩ f ah
 exact λl f=>eg.n rfl j rfl ⟨rfl,λi e c=>by (rw[e] at c;rcases qS c with ⟨p,_⟩ | ⟨_,v,w,_,_⟩ <;> omega)⟩ f ah
 have M:=bm s
 refine ft ?_;exact λl f=>eg.n rfl j rfl ⟨rfl,λi e c=>by (rw[e] at c;rcases qS c with ⟨p,_⟩ | ⟨_,v,w,_,_⟩ <;> omega)⟩ f ah
abbrev vB(a:List eO):List Chunk:=a.map λb=>b.nums.aQ
section
variable {w:World}
def ag.DF{l m:List eO}(a:ag b S (aZ (vB l)::aZ (vB m)::cs) w):ag b S (aZ (vB<|l++m)::cs) w:=by
 unfold vB;rw[gF];exact a.DB
variable {Z:eO}
def ag.xG{l:List eO}(a:ag b S (aZ (vB l)::cs) w)(c:Z.nums=sa):ag b S (aZ (vB<|l++[Z])::cs) w:=
 ((a.DA [Z]<|by simpa using c).perm<|List.Perm.swap _ _ _).DF
end
def o1 :List Int->ck->List fW->Prop
 | [],b,db=>b.h=a.h/\b.state=a.state/\db=[]
 | [c],b,db=>(0<=c->c<127->b.h=a.h/\b.state=a.state/\db=[if c<32 then ⟨1,0,c,0,[],[],false,[]⟩ else ⟨0,c,0,0,[],[],false,[]⟩])/\(160<=c->b.h=a.h/\b.state=a.state/\db=[⟨0,c,0,0,[],[],false,[]⟩])
 | _::_::_,_,_=>True
def o1.step{db:List fW}(c:y[u]? = some B)(d:u=0->o1 s [B] K db):o1 s (y.take<|u+1) K db:=by
 match y,u,c with
 | a::y,0,c=>
  simp only[sy,ek] at c
  subst c;exact d rfl
 | [_],u+1,c=>simp at c
 | a::b::y,u+1,c=>exact bh
structure nd (p:ck) (L:List Int) (i:Nat × ck × hH):Prop where
 k:i.1<=L.length
 g:i.2.1.g=p.g
 wf:gK i.2.1
 most:i.2.1.most=p.most
 dec:i.2.1.dec=p.dec
 len:i.2.2.l.length<=i.1
 ok: ∀e∈i.2.2.l,n0 e
 R:o1 p (L.take i.1) i.2.1 (i.2.2.l.map eO.abs)
def nd.zero(a:gK s):nd s y (0,s,⟨none,0,[]⟩):=⟨b4 _,rfl,a,rfl,rfl,by simp,by simp,by simp[o1]⟩
def DG(a:0<=U/\U<=255):n0 (fC B T U 0 [] [] false):=⟨Dz,by simp[fC],by simp[fC],a,by dsimp only[fC];omega⟩
variable {N:hH}
def nd.snoc{b:Int}(a:nd s y (u,K,N))(i:y[u]? = some B)(j:0<=b/\b<=255)
 (k:0<=B->B<127->(⟨T,U,b,0,[],[],false,[]⟩ :fW)=if B<32 then ⟨1,0,B,0,[],[],false,[]⟩ else ⟨0,B,0,0,[],[],false,[]⟩) (m:160<=B->(⟨T,U,b,0,[],[],false,[]⟩ :fW)=⟨0,B,0,0,[],[],false,[]⟩):nd s y (u+1,K,⟨f,J,N.l++[fC T U b 0 [] [] false]⟩):=by
 have n:=(cH.1 i).1
 refine⟨n,a.g,a.wf,a.most,a.dec,?_,?_,?_⟩;have:=a.len;simp at this ⊢;omega
 intro o he;rcases dq.1 he with he | he
 exact a.ok o he;simp only[e0] at he;subst he;exact DG j
 refine o1.step i λp=>?_;subst p;obtain⟨c,d,e⟩:=a.R;dsimp only at c d e ⊢
 refine⟨λh q=>⟨c,d,?_⟩,λh=>⟨c,d,?_⟩⟩;rw[gF,e,<-k h q];rfl
 rw[gF,e,<-m h];rfl
def nd.same(a:nd s y (u,K,N))(b:y[u]? = some B)(d:127<=B/\B<160):nd s y (u+1,K,N):=
 ⟨(cH.1 b).1,a.g,a.wf,a.most,a.dec,Nat.le_succ_of_le a.len,a.ok,o1.step b λ_=>⟨λc e=>by omega,λc=>by omega⟩⟩
def nd.cat{c:ck × hH}(a:nd s y (u,K,N))(d:y[u]? = some B)(k:127<=B/\B<160)(b:vz K 1 t c)(h:c.1.dec=K.dec):nd s y (u+1,c.1,⟨f,J,N.l++c.2.l⟩):=by
 refine⟨(cH.1 d).1,b.g.trans a.g,b.wf,b.most.trans a.most,h.trans a.dec,?_,?_,o1.step d λ_=>⟨λi m=>by omega,λi=>by omega⟩⟩;have j:=a.len
 have n:=b.len
 simp at j ⊢
 omega
 intro e he;rcases dq.1 he with he | he
 exact a.ok e he;exact b.ok e he
def Tu(c:Option Addr × Nat × List Int)(w:World):Ending->World->Prop:=
 aX (λb:ck × hH=>b.2.val) (nZ c::eB a) (λb=>vy b.1 b.2) (vz a c.2.2.length λd db=>d.dec=a.dec/\o1 a c.2.2 d db) w
abbrev Js(a:Nat × ck × hH):List Chunk:=[a.2.1.aq,a.2.1.head.aD,a.2.1.inter.aD,a.2.1.text.aD,nZ D,a.2.2.aD,a.2.2.cw]
def xH(w:World)(f:ck)(o:Option Addr × Nat × List Int)(y:bc w (nZ o::eB f))(z:gK f)(A:o.2.2.length<=2):
 ay 105 [gT f.g,Ah o] w (Tu f o w):=by
 obtain⟨h,i,a⟩:=o;dsimp only at A
 refine calls (n:=47) func105 rfl ntmps105 rfl ?_;refine dh (H':=ag w (aK<|nZ (h,i,a)::eB f)<|Js (h,i,a) (0,f,⟨none,0,[]⟩)) (fT ?_) (Sub.refl _) λB C=>(((y.start B C).e4 129 fO).DA [] au).aF<|aP.cons (by exact qn)<|aP.cons (by exact qn)<|aP.cons (by exact qn)<|aP.cons (by exact qn)<|aP.cons (by exact pm)<|aP.cons (by exact c6)<|aP.cons (by exact bx) aP.nil;refine cd (ι:=Nat × ck × hH) (λn=>[(0,gT f.g),(5,n.2.2.val),(8,.slice h a.length i),(9,ad (a.length:Int)),(10,ad (n.1 :Int))]) (λn=>ag w (aK<|nZ (h,i,a)::eB f)<|Js (h,i,a) n) (nd f a) (λn=>a.length - n.1) ?_ ?_;exact λU D=>⟨(0,f,⟨none,0,[]⟩),nd.zero z,(en rfl rfl rfl rfl rfl),D⟩
 rintro⟨c,b,d⟩ e;have E:=e.k
 have F:=e.len
 have v:=e.wf
 dsimp only at E F v ⊢
 rw[<-e.g];dsimp only;refine (aE) (λG=>?_) λG=>cn ?_;obtain⟨r,p⟩ : ∃r,a[c]? = some r:=⟨a[c]'aa,bD _⟩;refine aH ?_;refine ik (E:=hj) (by exact j4) mJ rfl rfl rfl bo aa λV H=>bb h_ rfl rfl (λW I=>I.Ad (E:=hj) (by exact j4) H bR _ rfl) ?_;refine (aE) (λq=>ap ?_) λq=>?_;refine dW rfl rfl underlying21 underlying5 rfl<|av ?_;refine ef (E:=fO) ⟨_,_,_,_,⟨_,_,_,0,0,[]⟩,_,_,_⟩ iA rfl rfl rfl rfl rfl λX Y Z=>fu (E:=fO) iA rfl rfl rfl (by exact bx) (λ_ _=>(by exact uJ)) cg cg λZa Zb=>a6 ?_;exact bv (c+1,b,⟨_,_,d.l++[fC 1 0 (IntKind.u8.wrap r) 0 [] [] false]⟩) (e.snoc p (Jk _) (λs x=>by rw[aB q,mN aa aa]) λs=>by omega) (by show a.length - (c+1)<a.length - c;omega) (en rfl rfl rfl rfl rfl) λ_ j=>(ag.xG (l:=d.l) (j.aF (l:=[d.cw,b.aq,b.head.aD,b.inter.aD,b.text.aD,nZ (h,i,a),aD 129 fO _ _<|d.l++[fC 1 0 (IntKind.u8.wrap r) 0 [] [] false]])<|aP.cons (by exact BX)<|aP.cons (by exact bx)<|aP.cons (by exact bx)<|aP.cons (by exact bx)<|aP.cons (by exact bx)<|aP.cons (by exact bx)<|aP.cons (by exact bx) aP.nil) rfl).aF<|aP.cons (by exact c6)<|aP.cons (by exact c6)<|aP.cons (by exact c6)<|aP.cons (by exact c6)<|aP.cons (by exact c6)<|aP.cons (by exact c6)<|aP.cons (by exact bx) aP.nil;refine (aE) (λJ=>aY ?_) λJ=>aI ?_;exact bv (c+1,b,d) (e.same p aa) (by show a.length - (c+1)<a.length - c;omega) b5 λ_ j=>j.aF<|aP.cons (by exact bx)<|aP.cons (by exact bx)<|aP.cons (by exact bx)<|aP.cons (by exact bx)<|aP.cons (by exact bx)<|aP.cons (by exact bx)<|aP.cons (by exact bx) aP.nil;refine bl 34 rfl (λt=>?_) λt=>?_;have K:=bg t
 refine (aE) (λL=>a7 ?_) λL=>a7 ?_;refine dW rfl rfl underlying21 underlying5 rfl<|hB rfl rfl rfl rfl<|bK (l0:=eB b) (aP.cons (by exact bx)<|aP.cons (by exact bx)<|aP.cons (by exact bx)<|aP.cons (by exact bx) aP.nil) (hargs:=rfl) (λM N=>Jp M b (N.cb<|aP.cons (by exact bx)<|aP.cons (by exact bx)<|aP.cons (by exact bx)<|aP.cons (by exact bx) aP.nil) v _<|Jk _) λm u=>?_;have Zc:=u.len
 refine fu (E:=fO) iA rfl rfl rfl (by exact pn) (λ_ _=>(by exact wN)) cg aa λZd Ze=>a6 ?_;exact bv (c+1,m.1,⟨_,_,d.l++m.2.l⟩) (e.cat p aa u u.R.1) (by show a.length - (c+1)<a.length - c;omega) (en rfl rfl rfl rfl rfl) λ_ j=>(ag.DF (l:=d.l) (m:=m.2.l)<|j.aF (l:=[d.cw,m.2.cw,m.1.aq,m.1.head.aD,m.1.inter.aD,m.1.text.aD,nZ (h,i,a),aD 129 fO _ _<|d.l++m.2.l])<|aP.cons (by exact BZ)<|aP.cons (by exact pn)<|aP.cons (by exact bx)<|aP.cons (by exact bx)<|aP.cons (by exact bx)<|aP.cons (by exact bx)<|aP.cons (by exact bx)<|aP.cons (by exact bx) aP.nil).aF<|aP.cons (by exact c6)<|aP.cons (by exact c6)<|aP.cons (by exact c6)<|aP.cons (by exact c6)<|aP.cons (by exact c6)<|aP.cons (by exact c6)<|aP.cons (by exact bx) aP.nil;refine ef (E:=fO) ⟨_,_,_,_,⟨_,_,_,0,0,[]⟩,_,_,_⟩ iA rfl rfl rfl rfl rfl λO P Q=>fu (E:=fO) iA rfl rfl rfl (by exact bx) (λ_ _=>(by exact uJ)) cg cg λZf Zg=>a6 ?_;exact bv (c+1,b,⟨_,_,d.l++[fC 0 r 0 0 [] [] false]⟩) (e.snoc p aW (λs x=>by rw[ai q]) λ_=>rfl) (by show a.length - (c+1)<a.length - c;omega) (en rfl rfl rfl rfl rfl) λ_ j=>(ag.xG (l:=d.l) (j.aF (l:=[d.cw,b.aq,b.head.aD,b.inter.aD,b.text.aD,nZ (h,i,a),aD 129 fO _ _<|d.l++[fC 0 r 0 0 [] [] false]])<|aP.cons (by exact BX)<|aP.cons (by exact bx)<|aP.cons (by exact bx)<|aP.cons (by exact bx)<|aP.cons (by exact bx)<|aP.cons (by exact bx)<|aP.cons (by exact bx) aP.nil) rfl).aF<|aP.cons (by exact c6)<|aP.cons (by exact c6)<|aP.cons (by exact c6)<|aP.cons (by exact c6)<|aP.cons (by exact c6)<|aP.cons (by exact c6)<|aP.cons (by exact bx) aP.nil;have K:=bm t
 refine bP ?_;refine ef (E:=fO) ⟨_,_,_,_,⟨_,_,_,0,0,[]⟩,_,_,_⟩ iA rfl rfl rfl rfl rfl λO P Q=>fu (E:=fO) iA rfl rfl rfl (by exact bx) (λ_ _=>(by exact uJ)) cg cg λZh Zi=>a6 ?_;exact bv (c+1,b,⟨_,_,d.l++[fC 0 r 0 0 [] [] false]⟩) (e.snoc p aW (λs x=>by rw[ai q]) λ_=>rfl) (by show a.length - (c+1)<a.length - c;omega) (en rfl rfl rfl rfl rfl) λ_ j=>(ag.xG (l:=d.l) (j.aF (l:=[d.cw,b.aq,b.head.aD,b.inter.aD,b.text.aD,nZ (h,i,a),aD 129 fO _ _<|d.l++[fC 0 r 0 0 [] [] false]])<|aP.cons (by exact BX)<|aP.cons (by exact bx)<|aP.cons (by exact bx)<|aP.cons (by exact bx)<|aP.cons (by exact bx)<|aP.cons (by exact bx)<|aP.cons (by exact bx) aP.nil) rfl).aF<|aP.cons (by exact c6)<|aP.cons (by exact c6)<|aP.cons (by exact c6)<|aP.cons (by exact c6)<|aP.cons (by exact c6)<|aP.cons (by exact c6)<|aP.cons (by exact bx) aP.nil;intro Zj S;have T:c=a.length:=by omega
 subst T;exact aX.cf (b,d) ⟨e.g,e.wf,e.most,e.len,e.ok,e.dec,by have:=e.R;rwa [um] at this⟩ rfl<|S.aF<|aP.cons (by exact bx)<|aP.cons (by exact bx)<|aP.cons (by exact bx)<|aP.cons (by exact bx)<|aP.cons (by exact c6)<|aP.cons (by exact c6) aP.nil
