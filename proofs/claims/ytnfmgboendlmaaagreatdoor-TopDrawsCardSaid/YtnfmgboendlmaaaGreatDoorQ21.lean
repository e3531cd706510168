/- part 21 of the proof -/
import Derived.Test.YtnfmgboendlmaaaGreatDoorQ20
import Derived.ChangeKeysEq
set_option linter.all false
namespace Go.Proofs.YtnfmgboendlmaaaGreatDoor.Mq
open RowKit Tryz
variable {b:World}{S:List Nat}{cs:List Chunk}{P:Program}{n d:Nat}{ops:Array Oper}{Q:cN}{rest:List Oper}{l:Fr}{ty:TypeId}{pos:String}{bf:Array Edge}
variable {I:Chunk}{M r:Int}{Z:IntKind}{m:List (List Int)}{W:List (Nat × Operand)}{X:List (Nat × Value)}{p:List Chunk}{o:List Value}{E K N e:Nat}{U:Operand}{z:Option Addr}{h:Type}{Y:TypeId}{B:UInt8}{C:World}{F:e6}(q:List (List Int))(u:Option Addr × Nat × List Int)(T:List Int)(k:World)(j:Nat)(G:e6)(a L:Int)(J:Nat){O:List h}{V:b1 h}{R:h}
namespace cp
def Dn :Nat:=if a=4 then kh J 264 ||| mi (q.getD j []) else qQ a J
def S1{aq aR:Int}(a:eG m e≠0)(b:eG m e≠38)(c:eG m e≠48):
 dZ m e ⟨r,M,aq,aR,(E:Int)⟩=(⟨(jq (eG m e) 30 90 (r,M)).1,(jq (eG m e) 30 90 (r,M)).2,(jq (eG m e) 40 100 (aq,aR)).1,(jq (eG m e) 40 100 (aq,aR)).2,(Dn m e (eG m e) E:Int)⟩,e+1):=by
 unfold dZ Dn;split
 rename_i d;rw[jq,ai aa,ai aa,ai aa,jq,ai aa,ai aa,ai aa];rfl
 rw[ai aa,o0,ai a];rfl
def Do :eG (q.drop j) J=eG q (j+J):=by
 unfold eG;rw[ja]
def S2{a:List (List Int)}{i:Nat}:gc (a.drop i) 0=gc a i:=by
 have c: (a.drop i).getD 0 []=a.getD i []:=by rw[fY,fY,ja];rfl
 have d:jp (a.drop i) 0=jp a i:=by unfold jp;rw[Do]
 have e: ∀m,m9 (a.drop i) 0 m=m9 a i m:=λm=>by
  unfold m9;refine sD λf _=>?_
  rw[Do];congr 1;omega
 unfold gc;rw[c];split
 rfl
 unfold kg;rw[d,e,fL];by_cases b:a.length<=i+1+jp a i
 rw[aB aa,aB b];congr 1;omega
 rw[ai aa,ai b]
def S3{i:Nat} :dZ m i F=((dZ (m.drop i) 0 F).1,i+(dZ (m.drop i) 0 F).2):=by
 have a: (m.drop i).getD 0 []=m.getD i []:=by rw[fY,fY,ja];rfl
 have b:eG (m.drop i) 0=eG m i:=Do m i 0
 unfold dZ;rw[a,b,S2];split
 rfl
 split
 dsimp only;congr 1;omega
 rfl
def Dp: ∀(m:Nat)(a:List (List Int))(b:Nat)(c:e6),a.length - b<=m->gJ a b c=gJ (a.drop b) 0 c
 | m,a,b,c,e=>by
  by_cases d:b<a.length
  cases m with
  | zero=>omega
  | succ m=>
   have f:=Dj (a.drop b) 0 c
   rw[pE d S3,pE (gs:=a.drop b) (i:=0) (by rw[fL];omega) (b:=(dZ (a.drop b) 0 c).1) (j:=(dZ (a.drop b) 0 c).2) rfl,
    Dp m a _ _ aa,Dp m (a.drop b) _ _<|by rw[fL];omega,ls]
  rw[xB aa,xB<|by rw[fL];omega]
def Aa{b:e6}{j:Nat}(a:m≠[])(c:dZ m 0 F=(b,j)):gJ m 0 F=gJ (m.drop j) 0 b:=by
 rw[pE (sC.2 a) c,Dp _ _ _ _<|cC _]
def single :List (List Int):=T.map λa=>[a]
def vv{x:Int}(b:0<=x)(a:List (List Int)):eG ([x]::a) 0=x:=by
 show max 0 x=x;omega
def S4 :gJ ([0]::q) 0 G=gJ q 0 fi:=
 Aa (j:=1) au (by unfold dZ;rw[vv aa,ai aW,ai aW,o0,aB rfl])
def Ab :Nat:=if a=4 then kh j 264 ||| 8 else qQ a j
def xC:List Int:=[1,2,3,4,5,7,8,9,21,53]
def S5: ∀a∈xC,0<a/\a<30\/a=53:=by decide
def S6(c:r∈xC)(a:List (List Int))(b:Nat):gJ ([r]::a) 0 ⟨0,0,0,0,(b:Int)⟩=gJ a 0 ⟨0,0,0,0,(Ab b r:Int)⟩:=by
 have g:=S5 r c
 refine Aa (j:=1) au ?_;have d: ([r]::a).getD 0 []=[r]:=rfl
 rw[S1 (by rw[vv aa];omega) (by rw[vv aa];omega) (by rw[vv aa];omega),vv aa];have e:jq r 30 90 (0,0)=(0,0):=by unfold jq;rw[ai aa,ai aa,ai aa]
 have f:jq r 40 100 (0,0)=(0,0):=by unfold jq;rw[ai aa,ai aa,ai aa]
 rw[e,f,Dn,d,Ab];rfl
def I7: ∀(a:List Int)(b:List (List Int))(c:Nat),(∀v∈a,v∈xC)->gJ (single a++b) 0 ⟨0,0,0,0,(c:Int)⟩=gJ b 0 ⟨0,0,0,0,((a.foldl Ab c:Nat):Int)⟩
 | [],b,c,_=>rfl
 | v::a,b,c,d=>by
  show gJ ([v]::(single a++b)) 0 _=_
  rw[S6 (d v au),I7 a b _ λe f=>d e<|by simp[f]];rfl
def S7: ∀bB,bB<1024->m_ bB=true->(bj.kS bB 10).foldl Ab 0=bB:=by decide+kernel
def S8 : ∀b∈bj.kS j 10,b∈xC:=by
 have c: ∀a∈bj.nV,(a.1 :Int)∈xC:=by decide
 intro b d;obtain⟨a,e,rfl⟩:=ei.1 d;exact c a<|hz (List.mem_filter.1 e).1
def S9{n p:Int}(i:p=38\/p=48)(c:bj.ee r n=true)(k:r≠0)(a:List (List Int))(e:e6):gJ (single (bj.ii r n p)++a) 0 e=gJ a 0 (nY p (some (r,n)) e):=by
 unfold bj.ee at c
 have c:=bg c
 have j: ∀(a:List (List Int)),eG ([p]::a) 0=p:=λa=>vv aa a
 rcases c with c | c | c
 exact absurd c.1 k;obtain⟨rfl,l,m⟩:=c;rw[bj.ii,aB rfl];show gJ ([p]::[5]::[n]::a) 0 e=_
 have f:eG ([p]::[5]::[n]::a) 2=n:=by show max 0 n=n;omega
 have g:kg ([p]::[5]::[n]::a) 0=(some (1,n),2):=by
  have h:jp ([p]::[5]::[n]::a) 0=1:=by unfold jp;rw[aB bo]
  unfold kg;rw[h,ai au,ai aW,show m9 ([p]::[5]::[n]::a) 0 1=[eG ([p]::[5]::[n]::a) 2] from rfl,f,I3 aa,show max 0 n=n by omega]
 refine Aa (j:=3) au ?_;unfold dZ;rw[j,ai aa,aB i];unfold gc;rw[ai au,g];rfl
 obtain⟨rfl,l,m⟩:=c;rw[bj.ii,ai aW,aB rfl];show gJ ([p]::[2]::[n/65536]::[n/256%256]::[n%256]::a) 0 e=_
 generalize d: ([p]::[2]::[n/65536]::[n/256%256]::[n%256]::a)=b
 have f:eG b 2=n/65536:=by subst d;show max 0 (n/65536)=_;omega
 have o:eG b 3=n/256%256:=by subst d;show max 0 (n/256%256)=_;omega
 have q:eG b 4=n%256:=by subst d;show max 0 (n%256)=_;omega
 have g:kg b 0=(some (2,n),4):=by
  have h:jp b 0=3:=by subst d;unfold jp;rw[show eG ([p]::[2]::[n/65536]::[n/256%256]::[n%256]::a) (0+1)=2 from rfl];rfl
  unfold kg;rw[h,ai<|by subst d;simp,ai aW,show m9 b 0 3=[eG b 2,eG b 3,eG b 4] from rfl,f,o,q,I4 aa aa aa];refine a_ (λs=>(some ((2 :Int),s),4)) ?_;omega
 have t:a=b.drop 5:=by subst d;rfl
 rw[t];refine Aa (j:=5) (by subst d;simp) ?_;have u:eG b 0=p:=by subst d;exact j _
 unfold dZ;rw[u,ai aa,aB i];unfold gc;rw[ai (by subst d;simp),g];rfl
def I8{a:Int}(f:a=38\/a=48)(c:bj.ee r M=true)(d:List (List Int))(b:e6)(g:nY a (some (0,0)) b=b):gJ (single (bj.ii r M a)++d) 0 b=gJ d 0 (nY a (some (r,M)) b):=by
 by_cases e:r=0
 have h:M=0:=by unfold bj.ee at c;have c:=bg c;omega
 subst e;subst h
 rw[g,bj.ii,ai aW,ai aW];rfl
 exact S9 f c e d b
def S_(b:e6)(a:bj.ez b=true):gJ (single<|bj.hP b) 0 G=b:=by
 obtain⟨e,f,aq,aR,d⟩:=b;have k:0<=d:=by
  simp only[bj.ez,dK,eQ] at a
  exact a.2.2.1
 obtain⟨c,rfl⟩ : ∃m:Nat,d=m:=⟨d.toNat,aa⟩;rw[tD,dK,dK] at a
 obtain⟨h,i,g⟩:=a;have j:single (bj.hP ⟨e,f,aq,aR,(c:Int)⟩)=[0]::(single (bj.kS c 10)++(single (bj.ii e f 38)++(single (bj.ii aq aR 48)++[]))):=by
  simp[single,bj.hP]
 rw[j,S4,show fi=⟨0,0,0,0,((0 :Nat):Int)⟩ from rfl,I7 _ _ _<|S8 c,S7 c (z_ g) g,
  I8 (.inl rfl) h _ _ (by simp[nY]),I8 (.inr rfl) i _ _<|by simp[nY],xB au]
 simp[nY]
def I9(h:bj.ez F=true): ∀b∈bj.hP F,0<=b/\b<1000:=by
 simp only[bj.ez,dK] at h
 obtain⟨i,j,_⟩:=h;have e: ∀f g c:Int,bj.ee f g=true->0<=c/\c<=100-> ∀b∈bj.ii f g c,0<=b/\b<1000:=by
  intro f g c d e b a;have m:=bj.xl d
  unfold bj.ee at d
  have d:=bg d
  unfold bj.ii at a
  split at a
  simp only[eJ,o9,or_false] at a
  omega
  split at a
  simp only[eJ,o9,or_false] at a
  omega
  cases a
 have k: ∀c∈bj.nV,c.1<1000:=by decide
 intro b a;rw[bj.hP] at a
 rcases dq.1 a with a | a
 rcases dq.1 a with a | a
 rcases eJ.1 a with rfl | a
 omega
 obtain⟨c,l,rfl⟩:=ei.1 a;have:=k c<|hz (List.mem_filter.1 l).1
 omega
 exact e _ _ _ i aa b a;exact e _ _ _ j aa b a
def I_ : (bj.hP G).length<=21:=by
 have a:=bj.zX G.bB.toNat 10
 have b:=bj.vk G.cM G.fn 38
 have c:=bj.vk G.aq G.aR 48
 simp only[bj.hP,b3,dV];omega
end cp
section
variable {cs':List Chunk}{w:World}
def ag.Ta{l0 c:List Chunk}(e:ag b S cs w)(f:bC cs (aZ l0) (aZ p) c)(a:ag w (aK l0) p C):ag b S c C:=
 e.iM f a.ext a.all (λd g=>by
  rcases fd d w.heap.size with h | i
  exact .inl<|a.eU d g h;exact .inr i) a.nodup
def ag.mj{l:List Chunk}(a:ag b S cs w)(c:Has cs (aZ l)):bc w l:=by
 refine⟨a.has c,?_⟩;obtain⟨x,f,e⟩:=List.append_of_mem c.mem;have d:=a.nodup
 rw[e,jb,gy] at d
 exact (gO.1 (gO.1 d).2.1).1
def ag.Tb{l:List Chunk}(a:ag b S cs w)(c:Has cs (aZ l))(d:Has l I):I.pred w:=a.has c I d.mem
end
section
variable {ι:Type}{args:List Operand}{di:Array TypeId}{f:FuncId}{vs:List Value}{v:ι->Value}{l0:List Chunk}{ok:ι->Prop}
def ml{l' cs1:ι->List Chunk}(c: ∀i,bC cs (aZ l0) (aZ<|l' i)<|cs1 i)
 (e: ∀w,ag b S cs w->Calls P f vs.toArray w (aX v l0 l' ok w))
 (g: ∀i,ok i->aM P n ops Q rest ((d,v i)::l) (ag b S<|cs1 i)) (hargs:db l args=some vs:=by exact rfl) (hd:Nat.blt d n=true:=by exact rfl) (hcb:dX P f:=by exact cL):
 aM P n ops Q (⟨some d,.call ⟨.value<|.func f,args.toArray,di⟩,ty,pos,bf,none⟩::rest) l (ag b S cs):=by
 refine iw rfl (hd:=hd) (hcb:=hcb) (hargs:=hargs) λw a=>?_
 have:=e w a
 simp only[jV,kr];refine this.mono ?_;rintro k m ⟨i,h,rfl,j⟩;exact⟨v i,rfl,(g i h).at<|a.Ta (c i) j⟩
end
def tE(bZ aw:Nat)(Q:World->Prop)(c: ∀w a:World,(∀k,bZ<=k->k<aw->a.heap[k]? = w.heap[k]?)->Q w->Q a):Chunk where
 cT:=List.range' bZ<|aw - bZ
 pred w:=(bZ<aw->aw<=w.heap.size)/\Q w
 low w h k d:=by
  rw[p8] at d
  have:=h.1 aa
  omega
 loc w a h ao:=by
  have b: ∀k,bZ<=k->k<aw->a.heap[k]? = w.heap[k]? :=λk ab ae=>h k<|p8.2 ⟨ab,aa⟩
  refine⟨λe=>?_,c w a b ao.2⟩
  have ab:=ao.1 e
  have ae:=b (aw - 1) aa aa
  have aS:w.heap[aw - 1]? = some (w.heap[aw - 1]'aa):=rf _
  rw[aS] at ae
  have an:=(lr.1 ae).1
  omega
def Ac(Q:World->Prop)(c: ∀w b:World,(∀a,j<=a->a<J->b.heap[a]? = w.heap[a]?)->Q w->Q b): (tE j J Q c).cT.Nodup:=List.nodup_range' ..
abbrev aD{b:Type}(d:TypeId)(c:b1 b)(e:Option Addr)(f:Nat)(a:List b):Chunk:=own d c.ax (.slice e a.length f) a.length<|c.all a
def Dq{w:World}{e sz a:Nat}{v:Value}(b: (own e sz v a o).pred w): ∃d c,v= .slice d a c:=yG b
def bC.part{cs:List Chunk}{d:Chunk}(b:bC cs I d p): ∃a,List.Perm cs (I::a)/\List.Perm p (d::a):=by
 obtain⟨l,c,rfl,rfl⟩:=b.split;exact⟨l++c,p_,p_⟩
def fu{E:b1 h}{x:Operand}{t m:Nat}{i:Option Addr}{a:List h}{cs':Option Addr->Nat->List Chunk}(u:dD P t e E.ax m o)(v:Nat.blt d n=true)
 (y:bi l x=some (.slice z O.length K)) (A:bi l U=some (.slice i a.length N)) (B:bH cs (aD e E i N a) p)
 (q: ∀c f,bC p (aD e E z K O) (aD e E c f<|O++a)<|cs' c f) (C:O.length+a.length<=maxLen) (D: (O.length+a.length)*m<=140737488355328)
 (F: ∀c f,aM P n ops Q rest ((d,.slice c (O++a).length f)::l)<|ag b S<|cs' c f):
 aM P n ops Q (⟨some d,.call ⟨.builtin .append,#[x,U],#[t,t]⟩,ty,pos,bf,none⟩::rest) l (ag b S cs):=by
 obtain⟨k,r,_⟩:=(q z K).part;have G:List.Perm cs (aD e E z K O::aD e E i N a::k):=B.perm.trans<|(r.cons _).trans<|List.Perm.swap _ _ _
 refine iL (H':=ag b S<|aD e E z K O::aD e E i N a::k) (qj (E:=E) (src:=a) (F:=λ_=>True) (cs':=λj=>own e E.ax j (O.length+a.length) (E.all O++E.all a)::aD e E i N a::k) u v y A (λj=>bC.head) (λw g=>?_) C D λj _=>?_) (Sub.refl _) λ_ g=>g.perm G
 ·obtain⟨Y,Z,H,I⟩:=Rd.ho (E:=E) (show w.ownsRow 0 e E.ax (.slice i a.length N) a.length (E.all a) from g.has<|Has.tail Has.head) rfl
  injection H with J _ L
  subst J L;exact I.d8 λ_ _=>bh
 ·intro w g
  obtain⟨c,f,M⟩:=Dq<|g.has Has.head;have s:j= .slice c (O++a).length f:=by rw[M,b3]
  obtain⟨R,T,V⟩:=(q c f).part;have W:List.Perm k R:=(r.symm.trans T).cons_inv
  have X:own e E.ax j (O.length+a.length) (E.all O++E.all a)=aD e E c f (O++a):=by
   rw[s];simp only[aD,b3,E.all_append]
  rw[X] at g
  rw[s];exact F c f w<|(g.rem<|bH.tail bH.head).perm<|(W.cons _).trans V.symm
def ag.Tc{w:World}{cs':List Chunk}(c:ag b S cs w)(a:bC cs (aG e (V.enc R) E) (aD E V (some ⟨e,0,none⟩) 1 [R]) cs'):ag b S cs' w:=by
 have d:aD E V (some ⟨e,0,none⟩) 1 [R]=own E V.ax (.slice (some ⟨e,0,none⟩) 1 1) 1 (V.enc R):=by
  simp[aD,b1.all]
 rw[d] at a
 exact c.Gn a (by rw[V.len];omega) aW
def ef{E:b1 h}{t g:Nat}{f:List Value}(a:h)(j:dD P t e E.ax g o)(k:Nat.blt d n=true)(m: (Nat.ble (1*E.ax) 16777216 && !(Nat.beq 1 0))=true)
 (p:ry l W=some X) (q:hY (λi=>some (i*E.ax,E.ax)) (gg o 1) X=some f) (r:f=E.enc a)
 (s: ∀c,b.heap.size<=c->(∀u∈aK cs,u<c)->aM P n ops Q rest ((d,.slice (some ⟨c,0,none⟩) 1 1)::l) (ag b S<|aD e E (some ⟨c,0,none⟩) 1 [a]::cs)):
 aM P n ops Q (⟨some d,.buildSlice t 1 W.toArray,ty,pos,bf,none⟩::rest) l (ag b S cs):=by
 subst r;exact By j k m p q λc v w=>iL (s c v w) (Sub.refl _) λ_ x=>x.Tc bC.head
def hF{E:b1 h}{w:World}{e:TypeId}{A:Option Addr}{c:Nat}{L:List h}(a: (aD e E A c L).pred w):Rd E w (λ_=>True) A L.length c L:=by
 obtain⟨i,j,b,d⟩:=Rd.ho (E:=E) (show w.ownsRow 0 e E.ax (.slice A L.length c) L.length (E.all L) from a) rfl;injection b with f _ g
 subst f g;exact d.d8 λ_ _=>bh
def xD{w:World}(d: (aD Y V z e O).pred w)(f:0<O.length): ∃a,z=some ⟨a,0,none⟩:=by
 rcases d.2 with ⟨b,g⟩ | ⟨a,i,j,b,_⟩
 injection b with _ c _;omega
 injection b with c _ _
 exact⟨a,c⟩
def ag.hG{E:b1 h}{w:World}(f:ag b S cs w){e d c:Nat}{A:Option Addr}{L:List h}(g:Has cs (aD e E A c L))(i:A=some ⟨d,0,none⟩){k:Nat}(j:L[k]? = some R)(a:Nat)(u:Value)(l: (E.enc R)[a]? = some u):
 w.cell? (((⟨d,0,none⟩ :Addr).add<|k*E.ax).add a)=some u:=by
 subst i;exact f.mH g j a u l
def ag.Ad{E:b1 h}{w:World}(c:ag b S cs w){a:Nat}{L:List h}(d:Has cs (aD e E z K L))(f:z=some ⟨a,0,none⟩)(g:L[N]? = some R)(u:Value)(i: (E.enc R)[0]? = some u):
 w.cell? ((⟨a,0,none⟩ :Addr).add<|N*E.ax)=some u:=by
 have:=c.hG d f g 0 u i
 simpa [Addr.add] using this
def ik{E:b1 h}{x i:Operand}{t e j:Nat}{A:Option Addr}{c q:Nat}{L:List h}(k:Has cs (aD e E A c L))(m:dD P t e E.ax j o)(p:Nat.blt d n=true)(s:bi l x=some (.slice A L.length c))(u:bi l i=some (.int Z r))
 (v:r=(q:Int)) (y:q<L.length)
 (z: ∀a,A=some ⟨a,0,none⟩->aM P n ops Q rest ((d,.pointer<|some<|(⟨a,0,none⟩ :Addr).add<|q*E.ax)::l) (ag b S cs)):aM P n ops Q (⟨some d,.indexAddr t x i,ty,pos,bf,none⟩::rest) l (ag b S cs):=by
 intro w f;obtain⟨a,g⟩:=xD (f.has k) aa;exact bE m p s u g v y (z a g) w f
def Ae(P:Program)(s i:Nat):Option (TypeId × Nat):=match P.underlying s with
 | some (.struct a)=>(a[i]?).map λf=>(f.type,f.offset)
 | _=>none
def Ja{P:Program}{s i off:Nat}{t:TypeId}(a:Ae P s i=some (t,off)): ∃b f,P.underlying s=some (.struct b)/\b[i]? = some f/\f.type=t/\f.offset=off:=by
 unfold Ae at a
 split at a
 rename_i b d;cases c:b[i]? with
 | none=>rw[c] at a;cases a
 | some f=>
  rw[c] at a
  simp only[o_,ek,Prod.mk.injEq] at a
  exact⟨b,f,d,c,a.1,a.2⟩
 cases a
section
variable {H:World->Prop}{x:Operand}{s i off:Nat}{t:TypeId}
def Jb{a v:Value}{cs:List Value}(b:Ae P s i=some (t,off))(c:dm P t a)(e:Nat.blt d n=true)(g:bi l x=some (.agg cs.toArray))(h:cs[off]? = some v)
 (j:aM P n ops Q rest ((d,v)::l) H):aM P n ops Q (⟨some d,.field s x i,ty,pos,bf,none⟩::rest) l H:=by
 obtain⟨z,f,k,m,o,p⟩:=Ja b;obtain⟨A,q,r⟩:=c.gf;refine dB _ e (λB w u=>?_) j;have y: (Instr.field s (.agg cs.toArray) i).run P w= .ok v w:=by
  simp[Instr.field,asAgg,Result.andThen,run_underlying k,m,o,p,part,qg q,r,h]
 simp[execOp,u x _ g,y]
def lM{vs cs:List Value}(b:Ae P s i=some (t,off))(a:de P t e o)(c:Nat.blt d n=true)(g:bi l x=some (.agg cs.toArray))(h: (cs.drop off).take e=vs)
 (j:aM P n ops Q rest ((d,.agg vs.toArray)::l) H):aM P n ops Q (⟨some d,.field s x i,ty,pos,bf,none⟩::rest) l H:=by
 obtain⟨C,f,k,m,p,q⟩:=Ja b;obtain⟨D,r,u⟩:=a.gf;obtain⟨E,v,F,y⟩:=a.inf;refine dB _ c (λG w z=>?_) j;have A:cs.toArray.extract off (off+e)=vs.toArray:=by
  rw[<-h];simp
 have B: (Instr.field s (.agg cs.toArray) i).run P w= .ok (.agg vs.toArray) w:=by
  simp[Instr.field,asAgg,Result.andThen,run_underlying k,m,p,q,part,qg r,u,run_sizeOf v,y,<-A]
 simp[execOp,z x _ g,B]
end
def gu{ι:Type}(v:ι->Value)(ok:ι->Prop)(w:World):Ending->World->Prop:=aX v [] (λ_=>[]) ok w
def gu.of{ι:Type}{v:ι->Value}{ok:ι->Prop}{w:World}{x:Value}(i:ι)(a:ok i)(b:x=v i)(c:Ext [] w C):gu v ok w (.returned x) C:=⟨i,a,by rw[b],⟨c,by simp[aK],by simp,by simp[aK]⟩⟩
def eN{ι:Type}{v:ι->Value}{ok:ι->Prop}{w:World}{x:Value}{cs:List Chunk}(i:ι)(b:ok i)(c:x=v i:=by exact rfl): ∀a,ag w [] cs a->gu v ok w (.returned x) a:=λ_ d=>gu.of i b c d.ext
def pF(P:Program):Nat->TypeId->List Value->List Value->Bool
 | 0,_,_,_=>false
 | d+1,b,xs,ys=>match P.underlying b with
  | some (.int _)=>match xs,ys with
   | [.int e _],[.int f _]=>decide<|e=f
   | _,_=>false
  | some .bool=>match xs,ys with
   | [.bool _],[.bool _]=>true
   | _,_=>false
  | some (.struct g)=> !P.stoodInHeld b && rB P (pF P d) g.toList 0 xs ys
  | some (.array n a)=>(match P.info? a with
   | some h=>Nat.beq h.size 1 && Nat.beq (P.cellsOf a) 1
   | none=>false) && !kD P a && (P.underlying a).isSome && Nat.beq xs.length n && Nat.beq ys.length n && (List.range n).all λc=>pF P d a ((xs.drop c).take 1)<|(ys.drop c).take 1
  | _=>false
def Af{P:Program}: ∀(d:Nat)(h:TypeId)(xs ys:List Value),pF P d h xs ys=true->
 ∀f,∃b:Bool,(xs=ys->b=true)/\ ∀w,(Op.equalIn (d+f) h (hZ P h xs)<|hZ P h ys).run P w= .ok b w
 | 0,_,_,_,a,_=>by simp[pF] at a
 | d+1,h,xs,ys,a,f=>by
  have i:d+1+f=(d+f)+1:=by omega
  rw[i];unfold pF at a
  split at a
  rename_i W c;split at a
  rename_i Ze E Zf b;have F:Ze=Zf:=by simpa using a
  subst F;exact⟨E == b,λa=>by cases a;simp,λw=>by simp[hZ,kD,c,j0,run_equalIn_int w _ _ _ _ _ _ c]⟩;cases a
  rename_i c;split at a
  rename_i E b;exact⟨E == b,λa=>by cases a;simp,λw=>by simp[hZ,kD,c,j0,Op.equalIn,run_underlying c]⟩;cases a
  rename_i X c;simp only[dK,p4] at a
  obtain⟨Zg,Zh⟩:=a;have u: ∀o,hZ P h o= .agg o.toArray:=λo=>by simp[hZ,kD,c,j0]
  have Y:P.fieldsOf h=X:=by simp[Program.fieldsOf,c]
  have Z:=λw=>run_equalIn_struct (P:=P) w (d+f) h xs.toArray ys.toArray (by rw[Y];exact c) Zg
  rw[Y] at Z
  have G: ∀(l:List Field)(off:Nat)(p q:List Value),p=xs.drop off->q=ys.drop off->rB P (pF P d) l off p q=true-> ∃b:Bool,(p=q->b=true)/\ ∀w,(Op.eqFields (d+f) xs.toArray ys.toArray l).run P w= .ok b w:=by
   intro l;induction l with
   | nil=>
    exact λoff p q _ _ a=>⟨true,λ_=>rfl,λw=>by simp[Op.eqFields]⟩
   | cons r l H=>
    intro off p q I J a;simp only[rB,dK] at a
    obtain⟨⟨⟨⟨⟨⟨j,Za⟩,v⟩,K⟩,L⟩,k⟩,Zb⟩:=a;have Zi:r.offset=off:=gX Za
    have M:=gX K
    have N:=gX L
    cases g:P.info? r.type with
    | none=>rw[g] at v;cases v.1
    | some m=>
     have Zc:lZ P r.type=m.size:=by simp[lZ,g]
     rw[Zc] at M N k Zb
     have Zj: ∃s,P.underlying r.type=some s:=by
      cases d with
      | zero=>simp[pF] at k
      | succ d=>
       unfold pF at k
       cases Zk:P.underlying r.type with
       | none=>rw[Zk] at k;cases k
       | some s=>exact⟨s,rfl⟩
     obtain⟨s,i⟩:=Zj;have Zd:j0 s=true->m.size=1:=λZl=>by
      rw[<-Zc];have t:=v.2
      rw[ny] at t
      rcases t with t | t
      simp[kD,i,Zl] at t
      exact gX t
     have x:=λw=>uz (P:=P) (w:=w) (cs:=xs) (off:=off) i g Zd (by rw[<-I];exact M)
     have y:=λw=>uz (P:=P) (w:=w) (cs:=ys) (off:=off) i g Zd (by rw[<-J];exact N)
     rw[<-I] at x
     rw[<-J] at y
     obtain⟨z,O,Q⟩:=Af d r.type (p.take m.size) (q.take m.size) k f;obtain⟨R,S,T⟩:=H (off+m.size) (p.drop m.size) (q.drop m.size) (by rw[I,ls]) (by rw[J,ls]) Zb;have Zm:r.name≠ "_":=by simpa using j
     refine⟨z && R,λA=>by rw[O (by rw[A]),S<|by rw[A]];rfl,λw=>?_⟩;unfold Op.eqFields;rw[aB Zm,Zi];simp only[Sem.run_bind,x,y,Result.andThen_ok,Q];cases z with
     | true=>simpa using T w
     | false=>simp
  obtain⟨b,U,V⟩:=G X.toList 0 xs ys au au Zh;exact⟨b,U,λw=>by rw[u,u,Z w];exact V w⟩;rename_i n D c;simp only[dK] at a
  obtain⟨⟨⟨⟨⟨j,Za⟩,v⟩,K⟩,L⟩,k⟩:=a;have u: ∀o,hZ P h o= .agg o.toArray:=λo=>by simp[hZ,kD,c,j0]
  cases g:P.info? D with
  | none=>rw[g] at j;cases j
  | some m=>
   rw[g] at j
   simp only[dK] at j
   have B:=gX j.1
   have Zn:=gX j.2
   obtain⟨s,i⟩:=Option.isSome_iff_exists.1 v;have M:=gX K
   have N:=gX L
   have G: ∀l:List Nat,(∀e∈l,e<n/\pF P d D ((xs.drop e).take 1) ((ys.drop e).take 1)=true)-> ∃b:Bool,(xs=ys->b=true)/\ ∀w,(Op.eqItems (d+f) D 1 xs.toArray ys.toArray l).run P w= .ok b w:=by
    intro l;induction l with
    | nil=>exact λ_=>⟨true,λ_=>rfl,λw=>by simp[Op.eqItems]⟩
    | cons e l H=>
     intro C;obtain⟨Zp,Zo⟩:=C e au;have x:=λw=>uz (P:=P) (w:=w) (cs:=xs) (off:=e) i g (λ_=>B) (by rw[B];simp;omega)
     have y:=λw=>uz (P:=P) (w:=w) (cs:=ys) (off:=e) i g (λ_=>B) (by rw[B];simp;omega)
     rw[B] at x y
     obtain⟨z,O,Q⟩:=Af d D ((xs.drop e).take 1) ((ys.drop e).take 1) Zo f;obtain⟨R,S,T⟩:=H λW F=>C W (by simp[F]);refine⟨z && R,λA=>by rw[O (by rw[A]),S<|by rw[A]];rfl,λw=>?_⟩;unfold Op.eqItems;rw[Nat.mul_one];simp only[Sem.run_bind,x,y,Result.andThen_ok,Q];cases z with
     | true=>simpa using T w
     | false=>simp
   obtain⟨b,U,V⟩:=G (List.range n) λe C=>⟨List.mem_range.1 C,jW.1 k e C⟩;exact⟨b,U,λw=>by rw[u,u,run_equalIn_array (P:=P) (w:=w) (d+f) xs.toArray ys.toArray c g,Zn];exact V w⟩
  cases a
section
variable {H:World->Prop}
variable {cS et:TypeId}{x y:Operand}{xs ys:List Value}
def Td{b:Bool}(f:oz P cS)(g:Nat.blt d n=true)(h:bi l x=some (.agg xs.toArray))(i:bi l y=some (.agg ys.toArray))(j: ∀a,(Op.equalIn 10000 cS (.agg xs.toArray)<|.agg ys.toArray).run P a= .ok b a)
 (k:aM P n ops Q rest ((d,.bool<|!b)::l) H):aM P n ops Q (⟨some d,.binOp .neq cS x y et,ty,pos,bf,none⟩::rest) l H:=by
 refine dB _ g (λo a c=>?_) k;have m:=run_eqGuard_agg (P:=P) a .neq cS x y xs.toArray ys.toArray f.guard
 have e:=run_neq_struct (P:=P) a cS xs.toArray ys.toArray
 rw[j a] at e
 simp only[execOp,c x _ h,c y _ i];simp only[Sem.run_bind,m,Result.andThen_ok,e,Sem.run_pure]
end
def BT :Int:=if a=237 then 159 else if a=244 then 143 else 191
structure fv where
 pre:Int
 head:List UInt8
 inter:List UInt8
 text:List UInt8
 last:Int
 ki:Bool
 cut:Bool
def eA:fv:=⟨0,[],[],[],0,false,false⟩
def Dr:fv:=⟨0,[],[],[],0,true,false⟩
def Ag(a:fv)(b:UInt8):fv:=
 if a.inter.length=2 then Dr else if a.ki=true then a else { a with inter:=a.inter++[b] }
abbrev il(a:Value)(b:World):Ending->World->Prop:=λc d=>c= .returned a/\Ext [] b d
structure hR where
 A:Option Addr
 c:Nat
 l:List UInt8
abbrev hR.val(a:hR):Value:= .slice a.A a.l.length a.c
abbrev hR.aD(a:hR):Chunk:=Mq.aD 5 cI a.A a.c a.l
abbrev iV:hR:=⟨none,0,[]⟩
structure d4 where
 n:Int
 eH:Int
 fN:Int
 bZ:Int
 aw:Int
structure ck where
 g:Nat
 pre:Int
 head:hR
 inter:hR
 text:hR
 last:Int
 ki:Bool
 cut:Bool
 most:Int
 state:Int
 dec:d4
abbrev Jc(a:ck):List Value:=[.int .u8 a.pre,a.head.val,a.inter.val,a.text.val,.int .u8 a.last,.bool a.ki,.bool a.cut,ad a.most,ad a.state,.int .i32 a.dec.n,ad a.dec.eH,ad a.dec.fN,.int .u8 a.dec.bZ,.int .u8 a.dec.aw]
abbrev ck.aq(a:ck):Chunk:=aG a.g (Jc a) 208
abbrev eB(a:ck):List Chunk:=[a.aq,a.head.aD,a.inter.aD,a.text.aD]
abbrev gT :Value:= .pointer<|some ⟨j,0,none⟩
abbrev Ds :Value:= .pointer<|some ⟨j,9,none⟩
abbrev lN(a:ck)(b:d4):ck:={ a with dec:=b }
def hj:b1 Int:=⟨λa=>[.int .i32 a],1,λ_=>rfl,λ_=>aV.cons rfl aV.nil⟩
abbrev nZ :Chunk:=aD 21 hj u.1 u.2.1 u.2.2
abbrev Ah :Value:= .slice u.1 u.2.2.length u.2.1
def ag.e4(b:TypeId)(c:b1 h){a:List Nat}{w:World}(d:ag C a p w):ag C a (aD b c none 0 []::p) w:=d.pb (by exact World.ownsRow_nil _ _ _ _) rfl
structure nb (d:d4):Prop where
 eH:0<=d.eH/\d.eH<=3
 fN:0<=d.fN/\d.fN<=4 - d.eH
def jN :Int:=if a<128 then 1 else if a<194\/244<a then 0 else if a<224 then 2 else if a<240 then 3 else 4
def hk :Int × Int:=if a=224 then (160,191) else if a=237 then (128,159) else if a=240 then (144,191) else if a=244 then (128,143) else (128,191)
def lO :Int:=if L=2 then a%32 else if L=3 then a%16 else a%8
def Ai :Int:=IntKind.i32.wrap<|a*2 ^ min (6 :Int).toNat IntKind.i32.bits
def Aj :Int:=IntKind.i32.wrap<|IntKind.u8.wrap ((BitVec.ofInt IntKind.u8.bits a &&& BitVec.ofInt IntKind.u8.bits 63).toNat:Int)
def kV :Int:=IntKind.i32.wrap ((BitVec.ofInt IntKind.i32.bits (Ai a) ||| BitVec.ofInt IntKind.i32.bits (Aj L)).toNat:Int)
def iG(b:d4)(a:UInt8):Option (d4 × List Int):=
 if b.eH=0 then
  if jN a.toNat=0 then none else if jN a.toNat=1 then some (b,[(a.toNat:Int)])
  else some (⟨lO a.toNat<|jN a.toNat,jN a.toNat - 1,1,(hk a.toNat).1,(hk a.toNat).2⟩,[])
 else if (a.toNat:Int)<b.bZ\/b.aw<(a.toNat:Int) then none
 else if 1<b.eH then some (⟨kV b.n a.toNat,b.eH - 1,b.fN+1,128,191⟩,[])
 else some (⟨kV b.n a.toNat,b.eH - 1,0,128,191⟩,[kV b.n a.toNat])
def Dt(c:d4)(d:UInt8)(a:d4 × Option Addr × Nat × List Int):Prop:=
 nb a.1/\a.2.2.2.length<=j/\ ∀b,iG c d=some b->a.1=b.1/\a.2.2.2=b.2
def Te(b:ck)(c:UInt8)(d:World):Ending->World->Prop:=
 aX (λa:d4 × Option Addr × Nat × List Int=>Ah a.2) [b.aq] (λa=>[(lN b a.1).aq,nZ a.2]) (Dt j b.dec c) d
def Tf :ay 246 [.int .u8 a] k (il (ad<|jN a) k):=by
 refine ba func246 ntmps246 ?_;refine cZ ?_;focus (refine (cj) (λc=>?_) λc=>?_;refine a6 ?_;rotate_left;refine aI ?_;refine bl 9 rfl (λb=>?_) λb=>?_;have d:=bg b;refine fa ?_;rotate_left;have d:=bm b;refine aY ?_;refine (cj) (λe=>?_) λe=>?_;refine a6 ?_;rotate_left;refine aU ?_;refine (cj) (λf=>?_) λf=>?_;refine a6 ?_;rotate_left;refine aU ?_;refine (cj) (λg=>?_) λg=>?_;refine a6 ?_;rotate_left;refine be ?_;all_goals (intro i h;exact⟨by simp only[jN,Ending.returned.injEq,Value.int.injEq,true_and];omega,h.ext⟩))
def Tg :ay 247 [.int .u8 a] k (il (.tuple #[.int .u8 (hk a).1,.int .u8 (hk a).2]) k):=by
 refine ba func247 ntmps247 ?_;refine (aE) (λd=>be ?_) λd=>?_;exact λc b=>⟨by unfold hk;repeat (rw[aB bR]),b.ext⟩
 refine (aE) (λe=>be ?_) λe=>?_;exact λc b=>⟨by unfold hk;repeat (first | rw[aB bR] | rw[ai bR]),b.ext⟩
 refine (aE) (λf=>be ?_) λf=>?_;exact λc b=>⟨by unfold hk;repeat (first | rw[aB bR] | rw[ai bR]),b.ext⟩
 refine (aE) (λg=>be ?_) λg=>bP ?_;exact λc b=>⟨by unfold hk;repeat (first | rw[aB bR] | rw[ai bR]),b.ext⟩
 exact λc b=>⟨by unfold hk;repeat (rw[ai bR]),b.ext⟩
def Th(b:jN a=L):ay 246 [.int .u8 a] k (il (ad L) k):=by subst b;exact Tf k a
def Ti :0<=jN a/\jN a<=4:=by unfold jN;omega
def Tj(a:UInt8){ax:Int}(b:ax=2\/ax=3\/ax=4):IntKind.i32.wrap ((BitVec.ofInt IntKind.i32.bits (IntKind.i32.wrap (a.toNat:Int)) &&& BitVec.ofInt IntKind.i32.bits (IntKind.i32.wrap<|(if ax=2 then 32 else if ax=3 then 16 else 8) - 1)).toNat:Int)=lO a.toNat ax:=by
 have c:=a.toNat_lt
 rw[nG (z:=(a.toNat:Int)) aa aa];rcases b with rfl | rfl | rfl
 exact and_eq (m:=a.toNat) (n:=31) rfl rfl (by simp[IntKind.bits];omega) aW (by rw[up a.toNat 5,nG aa aa];simp[lO]);exact and_eq (m:=a.toNat) (n:=15) rfl rfl (by simp[IntKind.bits];omega) aW (by rw[up a.toNat 4,nG aa aa];simp[lO]);exact and_eq (m:=a.toNat) (n:=7) rfl rfl (by simp[IntKind.bits];omega) aW (by rw[up a.toNat 3,nG aa aa];simp[lO])
variable {D:d4}
def Tk(a:D.eH=0)(b:jN B.toNat=0):iG D B=none:=by unfold iG;rw[aB a,aB b]
def Jd(a:D.eH=0)(b:jN B.toNat=1):iG D B=some (D,[(B.toNat:Int)]):=by unfold iG;rw[aB a,ai aa,aB b]
def Je(a:D.eH=0)(b:jN B.toNat=r)(c: ¬r=0)(d: ¬r=1):iG D B=some (⟨lO B.toNat r,r - 1,1,(hk B.toNat).1,(hk B.toNat).2⟩,[]):=by unfold iG;rw[aB a,ai aa,ai aa,b]
def Jf(a: ¬D.eH=0)(b: (B.toNat:Int)<D.bZ\/D.aw<(B.toNat:Int)):iG D B=none:=by unfold iG;rw[ai a,aB b]
def Ak{d:d4}{c:UInt8}(a: ¬d.eH=0)(e: ¬(c.toNat:Int)<d.bZ)(f: ¬d.aw<(c.toNat:Int))(b:1<d.eH):iG d c=some (⟨kV d.n c.toNat,d.eH - 1,d.fN+1,128,191⟩,[]):=by unfold iG;rw[ai a,ai aa,aB b]
def Al{d:d4}{c:UInt8}(a: ¬d.eH=0)(e: ¬(c.toNat:Int)<d.bZ)(f: ¬d.aw<(c.toNat:Int))(b: ¬1<d.eH):iG d c=some (⟨kV d.n c.toNat,d.eH - 1,0,128,191⟩,[kV d.n c.toNat]):=by unfold iG;rw[ai a,ai aa,ai b]
structure vw (af:Nat) (mk:d4->List Value):Prop where
 len: ∀d,af+5<=(mk d).length
 ar: ∀d,(mk d)[af+0]? = some (.int .i32 d.n)
 ab: ∀d,(mk d)[af+1]? = some (ad d.eH)
 ae: ∀d,(mk d)[af+2]? = some (ad d.fN)
 an: ∀d,(mk d)[af+3]? = some (.int .u8 d.bZ)
 aS: ∀d,(mk d)[af+4]? = some (.int .u8 d.aw)
 gj: ∀d x,(mk d).set (af+0) (.int .i32 x)=mk { d with n:=x }
 s1: ∀d x,(mk d).set (af+1) (ad x)=mk { d with eH:=x }
 s2: ∀d x,(mk d).set (af+2) (ad x)=mk { d with fN:=x }
 lf: ∀d x,(mk d).set (af+3) (.int .u8 x)=mk { d with bZ:=x }
 Jg: ∀d x,(mk d).set (af+4) (.int .u8 x)=mk { d with aw:=x }
def vw.le{k:Nat}{mk:d4->List Value}(b:vw e mk)(a:d4)(c:k<=5):e+k<=(mk a).length:=ge (Nat.add_le_add_left c e)<|b.len a
abbrev vx(a:d4):List Value:=[.int .i32 a.n,ad a.eH,ad a.fN,.int .u8 a.bZ,.int .u8 a.aw]
def Tl:vw 0 vx:=⟨λ_=>cC 5,λ_=>rfl,λ_=>rfl,λ_=>rfl,λ_=>rfl,λ_=>rfl,λ_ _=>rfl,λ_ _=>rfl,λ_ _=>rfl,λ_ _=>rfl,λ_ _=>rfl⟩
def Tm(a:ck):vw 9 (λb=>Jc<|lN a b):=⟨λ_=>cC 14,λ_=>rfl,λ_=>rfl,λ_=>rfl,λ_=>rfl,λ_=>rfl,λ_ _=>rfl,λ_ _=>rfl,λ_ _=>rfl,λ_ _=>rfl,λ_ _=>rfl⟩
def Jh(b:Nat)(mk:d4->List Value)(c:d4)(d:UInt8)(e:World):Ending->World->Prop:=
 aX (λa:d4 × Option Addr × Nat × List Int=>Ah a.2) [aG J (mk c) b] (λa=>[aG J (mk a.1) b,nZ a.2]) (Dt j c d) e
def Du(i:World){mk:d4->List Value}(a:vw E mk)(c:d4)(r:bc i [aG e (mk c) K])(n:nb c)(j:c.eH=0)(t:c.fN<=4)(b:UInt8):
 ay 171 [.pointer (some ⟨e,E,none⟩),.int .u8 (b.toNat:Int)] i (Jh 1 e K mk c b i):=by
 obtain⟨d,g⟩ : ∃k,jN (b.toNat:Int)=k:=⟨_,rfl⟩;have s:=Ti (b.toNat:Int)
 rw[g] at s
 have u:=b.toNat_lt
 refine calls (n:=46) func171 rfl ntmps171 rfl ?_;refine dh (H':=ag i (aK [aG e (mk c) K]) [aG e (mk c) K]) (aY ?_) (Sub.refl _) r.start;refine bF (Th · _ d g) ?_;refine (aE) (λl=>aA ?_) λl=>?_;refine ef (E:=hj) _ mJ rfl rfl rfl rfl rfl λv w x=>aU ?_;intro o h
 (refine aX.cf (c,_,_,[_]) ?_ rfl<|h.aF ah;exact⟨n,by simp,λp f=>by rw[Tk j (g.trans l)] at f;cases f⟩)
 refine (aE) (λm=>ap ?_) λm=>aU ?_;refine dW rfl rfl underlying5 underlying21 rfl<|ef (E:=hj) _ mJ rfl rfl rfl rfl rfl λy z A=>aU ?_;intro o h
 (refine aX.cf (c,_,_,[_]) ?_ rfl<|h.aF ah;exact⟨n,by simp,λp f=>by rw[Jd j (g.trans m)] at f;cases f;exact⟨rfl,by rw[nG aa aa]⟩⟩)
 refine dW rfl rfl underlying5 underlying21 rfl<|av ?_;refine hB rfl rfl rfl (wrap64 (by (try dsimp only);omega)<|by (try dsimp only);omega) ?_;have q:d=2\/d=3\/d=4:=by omega
 refine pj (r:=if d=2 then 32 else if d=3 then 16 else 8) rfl rfl rfl aa (by rcases q with rfl | rfl | rfl <;> rfl) ?_;refine hB rfl rfl rfl rfl<|rI (r:=lO b.toNat d) rfl rfl rfl (Tj b q)<|aA ?_;refine iN h_ rfl rfl cJ rfl (a.le _ (k:=0+1) aW) ?_;rw[a.gj];refine aU ?_;refine hB rfl rfl rfl (wrap64 (by (try dsimp only);omega)<|by (try dsimp only);omega) ?_;refine aA ?_;refine iN bY rfl rfl cJ rfl (a.le _ (k:=1+1) aW) ?_;rw[a.s1];refine aA ?_;refine iN bY rfl rfl cJ rfl (a.le _ (k:=2+1) aW) ?_;rw[a.s2];refine aU ?_;refine bF (Tg · _) ?_;refine aI ?_;refine iN pg rfl rfl cJ rfl (a.le _ (k:=3+1) aW) ?_;rw[a.lf];refine aA ?_;refine iN pg rfl rfl cJ rfl (a.le _ (k:=4+1) aW) ?_;rw[a.Jg];refine a6 ?_;intro o h
 (refine aX.cf (⟨lO b.toNat d,d - 1,1,(hk b.toNat).1,(hk b.toNat).2⟩,none,0,[]) ?_ rfl<|(h.e4 21 hj).aF ah;exact⟨⟨by dsimp only;omega,by dsimp only;omega⟩,by simp,λp f=>by rw[Je j g l m] at f;cases f;exact⟨rfl,rfl⟩⟩)
def Ji{mk:d4->List Value}(a:vw E mk)(b:d4)(x:bc k [aG e (mk b) K])(m:nb b)(d:UInt8):
 ay 109 [.pointer (some ⟨e,E,none⟩),.int .u8 (d.toNat:Int)] k (Jh 2 e K mk b d k):=by
 have G:=m.eH
 have H:=m.fN
 refine calls (n:=85) func109 rfl ntmps109 rfl ?_;refine dh (H':=ag k (aK [aG e (mk b) K]) [aG e (mk b) K]) (lb ?_) (Sub.refl _) x.start;refine k8 bY rfl rfl bw (a.ab _) ?_;refine (aE) (λi=>a7 ?_) λi=>a6 ?_;refine (dg) (Du · a b · m bR aa d) λj f=>aH ?_;exact bT j ⟨f.1,by have:=f.2.1;omega,f.2.2⟩;refine k8 pg rfl rfl bw (a.an _)<|aA ?_;refine bl 21 rfl (λh=>?_) λh=>?_;have y:=bg h
 refine fa ?_;refine iN bY rfl rfl cJ rfl (a.le _ (k:=1+1) aW) ?_;rw[a.s1];refine aA ?_;refine iN bY rfl rfl cJ rfl (a.le _ (k:=2+1) aW) ?_;rw[a.s2];refine a7 ?_;refine ef (E:=hj) _ mJ rfl rfl rfl rfl rfl λz A B=>aA ?_;refine (dg) (Du · a ⟨b.n,0,0,b.bZ,b.aw⟩ · ⟨by simp,by simp⟩ rfl au d) λj f=>?_;obtain⟨⟨o,p,q,r,s⟩,C,D,F⟩:=j;have t:=f.2.1
 dsimp only at t
 refine fu (E:=hj) mJ rfl rfl rfl c6 (λ_ _=>fs) cg cg λI J=>aH ?_;intro u g
 (refine aX.cf (⟨o,p,q,r,s⟩,_,_,_) ?_ rfl<|g.aF ah;exact⟨f.1,by simp;omega,λv c=>by rw[Jf i (.inl<|bg h)] at c;cases c⟩)
 have y:=bm h
 refine a6 ?_;refine k8 pg rfl rfl bw (a.aS _) ?_;refine (aE) (λl=>aH ?_) λl=>aY ?_;refine iN bY rfl rfl cJ rfl (a.le _ (k:=1+1) aW) ?_;rw[a.s1];refine aA ?_;refine iN bY rfl rfl cJ rfl (a.le _ (k:=2+1) aW) ?_;rw[a.s2];refine a7 ?_;refine ef (E:=hj) _ mJ rfl rfl rfl rfl rfl λz A B=>aA ?_;refine (dg) (Du · a ⟨b.n,0,0,b.bZ,b.aw⟩ · ⟨by simp,by simp⟩ rfl au d) λj f=>?_;obtain⟨⟨o,p,q,r,s⟩,C,D,F⟩:=j;have t:=f.2.1
 dsimp only at t
 refine fu (E:=hj) mJ rfl rfl rfl c6 (λ_ _=>fs) cg cg λL M=>aH ?_;intro u g
 (refine aX.cf (⟨o,p,q,r,s⟩,_,_,_) ?_ rfl<|g.aF ah;exact⟨f.1,by simp;omega,λv c=>by rw[Jf i (.inr l)] at c;cases c⟩)
 refine k8 h_ rfl rfl bw (a.ar _)<|pj (r:=Ai b.n) rfl rfl rfl aW rfl<|av ?_;refine rI rfl rfl rfl rfl<|dW (r:=Aj d.toNat) rfl rfl underlying5 underlying21 rfl<|mO (r:=kV b.n d.toNat) rfl rfl rfl rfl<|aA ?_;refine iN h_ rfl rfl cJ rfl (a.le _ (k:=0+1) aW) ?_;rw[a.gj];refine aY ?_;refine iN pg rfl rfl cJ rfl (a.le _ (k:=3+1) aW) ?_;rw[a.lf];refine aA ?_;refine iN pg rfl rfl cJ rfl (a.le _ (k:=4+1) aW) ?_;rw[a.Jg];refine aU ?_;refine k8 bY rfl rfl bw (a.ae _) ?_;refine jB rfl rfl rfl (wrap64 (by (try dsimp only);omega)<|by (try dsimp only);omega) ?_;refine aA ?_;refine iN bY rfl rfl cJ rfl (a.le _ (k:=2+1) aW) ?_;rw[a.s2];refine aY ?_;refine k8 bY rfl rfl bw (a.ab _) ?_;refine hB rfl rfl rfl (wrap64 (by (try dsimp only);omega)<|by (try dsimp only);omega) ?_;refine aA ?_;refine iN bY rfl rfl cJ rfl (a.le _ (k:=1+1) aW) ?_;rw[a.s1];refine aU ?_;refine k8 bY rfl rfl bw (a.ab _) ?_;refine (aE) (λw=>?_) λw=>?_;dsimp only at w
 refine aY ?_;intro u g
 (refine aX.cf (⟨kV b.n d.toNat,b.eH - 1,b.fN+1,128,191⟩,none,0,[]) ?_ rfl<|(g.e4 21 hj).aF ah;exact⟨⟨by dsimp only;omega,by dsimp only;omega⟩,by simp,λv c=>by rw[Ak i (bm h) l aa] at c;cases c;exact⟨rfl,rfl⟩⟩)
 dsimp only at w
 refine aU ?_;refine iN bY rfl rfl cJ rfl (a.le _ (k:=2+1) aW) ?_;rw[a.s2];refine aU ?_;refine k8 h_ rfl rfl bw (a.ar _)<|ef (E:=hj) _ mJ rfl rfl rfl rfl rfl λN O P=>aI ?_;intro u g
 (refine aX.cf (⟨kV b.n d.toNat,b.eH - 1,0,128,191⟩,_,_,[_]) ?_ rfl<|g.aF ah;exact⟨⟨by dsimp only;omega,by dsimp only;omega⟩,by simp,λv c=>by rw[Al i (bm h) l aa] at c;cases c;exact⟨rfl,rfl⟩⟩)
def Jj(a:ck)(c:bc k [a.aq])(d:nb a.dec)(b:UInt8):
 ay 109 [Ds a.g,.int .u8 (b.toNat:Int)] k (Te 2 a b k):=Ji k (Tm a) a.dec c d b
def Dv(b:ck)(f:bc k [b.aq])(c:nb b.dec):
 ay 106 [Ds b.g] k (aX (λa:d4 × Option Addr × Nat × List Int=>Ah a.2) [b.aq] (λa=>[(lN b a.1).aq,nZ a.2]) (λa=>nb a.1/\a.2.2.2.length<=1/\a.1.eH<=b.dec.eH/\(b.dec.fN=0->a.1=b.dec/\a.2.2.2=[])) k):=by
 have h:=c.eH
 have l:=c.fN
 refine bX func106 ntmps106 f ?_;refine (aE) (λe=>aY ?_) λe=>b6 ?_;intro i d
 (refine aX.cf (b.dec,none,0,[]) ?_ rfl<|(d.e4 21 hj).aF ah;exact⟨c,by simp,oj _,λ_=>⟨rfl,rfl⟩⟩)
 refine ef (E:=hj) _ mJ rfl rfl rfl rfl rfl λm n o=>aI ?_;intro i d
 (refine aX.cf (⟨0,0,0,0,0⟩,_,_,[_]) ?_ rfl<|d.aF ah;exact⟨⟨by simp,by simp⟩,by simp,h.1,λj=>absurd j e⟩)
