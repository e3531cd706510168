/- part 24 of the proof -/
import Derived.Test.YtnfmgboendlmaaaGreatDoorQ23
import Derived.Lib.Builder
import Derived.Lib.AppendStr
import Derived.Lib.UnsafeStr
import Derived.Shelf.Strconv.Itoa3
import Derived.Lib.ItoaLen
set_option linter.all false
namespace Go.Proofs.YtnfmgboendlmaaaGreatDoor.Mq
open RowKit Tryz
variable {P:Program}{n d:Nat}{ops:Array Oper}{Q:cN}{rest:List Oper}{l:Fr}{ty:TypeId}{pos:String}{bf:Array Edge}{b:World}{S:List Nat}{cs:List Chunk}
variable {F:Addr}{q:Bool}{j:Int}{W:List UInt8}{V:List Value}{N O a v:Nat}{B:Nat->Nat}{U:Op}{K o:Operand}{z:Option Addr}{X:Option Addr->Nat->List Chunk}{Y:Type}{I J M p:TypeId}{y:TypeInfo}{Z:Value}{E:World}{u:bA}(f:World)(e:Nat)(i:Bool)(T:bQ)(h:Int)(x:Nat)(C:Chunk)(D:Value)(L:Nat)
def hs(a b:Int):a1:=⟨kR,pI h a b,0,0,0,h - 1,tu,0,0,false,0,dw.kO [] a.toNat⟩
def TO{rows al:Int}(a:1<=rows/\rows<=1000)(b:2<=al/\al<=1000)(c:0<=j/\j<=100000):eX (hs rows al j):=by
 have d: ((hs rows al j).bz.cY.length:Int)=rows:=by simp only[hs,pI,hy];omega
 have e: (hs rows al j).bz.al=al:=rfl
 refine⟨TL a b c,?_,?_,?_⟩;show 0<=(0 :Int)/\(0 :Int)<((hs rows al j).bz.cY.length:Int)
 omega
 show 0<=(0 :Int)/\(0 :Int)<=al
 omega
 show 0<=(0 :Int)/\(0 :Int)<=rows - 1/\rows - 1<((hs rows al j).bz.cY.length:Int)
 omega
abbrev Jz(a:dw.gi)(b:Int):bA:=⟨e,kR,T,⟨x,dw.kO [] L,a⟩,0,0,0,b - 1,tu,0,0,false,0⟩
def tn(n:Nat): (dw.kO [] n).length=n:=by simp[dw.kO]
def TP(c:2<=h/\h<=1000):ay 102 [ad h] f (gr (λa:Nat × dw.gi=>Value.tuple #[ptr a.1,z0]) (λa=>dw.fz a.1 (dw.kO [] h.toNat).length a.2) (λa=>dw.jk (dw.kO [] h.toNat) a.2) f):=by
 have b:=dw.u7 f h.toNat aa
 rw[show ((h.toNat:Nat):Int)=h by omega] at b
 rw[tn];exact b
set_option maxHeartbeats 1000000 in
def JA(al a:Int)(k:1<=h/\h<=1000)(i:2<=al/\al<=1000)(l:0<=a/\a<=100000):ay 44 [ad h,ad al,ad a] f
 (aX (λb:bA=> .tuple #[ptr b.g,z0]) [] a8 (λb=>eM b/\b.abs=hs h al a) f):=by
 refine ba func44 ntmps44 ?_;refine bP ?_;refine kH (TN · h al a k i l) λc e=>cZ ?_;refine (cj) (λj=>be ?_) λj=>aI ?_;exact λq r=>absurd rfl j
 refine hf (λm _=>TP m al i) λd n=>a6 ?_;refine bF (CM ·)<|a7 ?_;refine kB (out:=ga<|Jz 0 c d.1 al.toNat d.2 h) N1 rfl rfl (by simp[hY,putAt,dJ,Value.cells,kR,r3,tu,hN.enc,gE.enc])<|av ?_;intro o s t;refine aH ?_;exact jG (Jz o c d.1 al.toNat d.2 h) ⟨⟨e.1,n,by have p:c.al=al:=a_ b8.al e.2;show ((dw.kO [] al.toNat).length:Int)=c.al;rw[tn,p];omega⟩,by simp only[bA.abs,e.2];rfl⟩
structure n1 where
 told:Bool
 kind:Int
 code:Int
 has:Bool
 text:List UInt8
 row:Int
 dL:Int
 im:Int
 lP:Int
 li:Int
abbrev n1.enc(a:n1):List Value:=[.bool a.told,ad a.kind,ad a.code,.bool a.has,bU a.text,ad a.row,ad a.dL,ad a.im,ad a.lP,ad a.li]
def ne:b1 n1:=⟨n1.enc,10,λ_=>rfl,λ_=>by repeat (first | exact aV.nil | refine aV.cons rfl ?_)⟩
structure pJ where
 A:Option Addr
 c:Nat
 l:List n1
abbrev pJ.val(a:pJ):Value:= .slice a.A a.l.length a.c
abbrev pJ.aD(a:pJ):Chunk:=Mq.aD 234 ne a.A a.c a.l
structure bM where
 am:bA
 br:bA
 use:Bool
 cr:Nat
 cy:List UInt8
 bt:Option Addr
 buf:hR
 aQ:pJ
abbrev bM.cG(a:bM):Nat:=if a.use=true then a.br.g else a.am.g
abbrev bM.dY(a:bM):Nat:=if a.use=true then a.am.g else a.br.g
abbrev bM.DO(a:bM):Int:=if a.use=true then 1 else 0
abbrev n2(a:bM):List Value:=[ptr e,ptr a.cG,ptr a.dY,ad a.DO,.int .u32 (a.cr:Int),bU a.cy,.pointer a.bt,a.buf.val,a.aQ.val]
abbrev eu(a:bM):Chunk:=aG e (n2 x a) 124
abbrev b0(a:bM):List Chunk:=[eu e x a,aZ<|a8 a.am,aZ<|a8 a.br,a.buf.aD,a.aQ.aD,C]
def DP(s:List UInt8):Lib.strCells (bs s)=cI.all s:=by
 simp only[Lib.strCells,bs,cI,b1.all];induction s with
 | nil=>rfl
 | cons a s b=>simp_all
def JB(e:Nat.blt d n=true)(f: ∀c a,ox l c->ag b S cs a->(execOp c ⟨some d,U,ty,pos,bf,none⟩).run P a= .ok (.value D) a)
 (g:aM P n ops Q rest ((d,D)::l) (ag b S cs)):aM P n ops Q (⟨some d,U,ty,pos,bf,none⟩::rest) l (ag b S cs):=uv D e f g
def DQ{t:TypeId}(b: (aG a V t).pred E):E.shape? a=some (t,V.length):=by
 have c:E.heap[a]? = some (.cells V.toArray t (0,0)):=b
 simp[World.shape?,c]
def TQ{xs:List Value}(c:P.underlying p=some (.pointer J))(e:P.underlying I=some .unsafePointer)(f:P.info? J=some y)(g:y.size≠0)(h:Has cs (aG a xs M))(i:v<xs.length)
 (j:Nat.blt d n=true) (k:bi l o=some (.pointer<|some ⟨a,v,none⟩))
 (m:aM P n ops Q rest ((d,.pointer<|some ⟨a,v,none⟩)::l) (ag b S cs)):aM P n ops Q (⟨some d,.convert p I o,ty,pos,bf,none⟩::rest) l (ag b S cs):=
 JB _ j (λt q r s=>by
  simp only[execOp,r o _ k];have:=Lib.run_to_unsafe (P:=P) q ⟨a,v,none⟩ c e f g (DQ<|s.has h) i
  simp[this]) m
def TR{c:Operand}{o m:Nat}{xs:List Value}(e:P.underlying p=some .unsafePointer)(f:P.underlying I=some (.pointer J))(g:P.info? J=some y)(h:Has cs (aG a xs M))(i:xs.length=m)(j:liesAt P P.depth M (m/P.cellsOf M) o J 1=true)
 (k:Nat.blt d n=true) (q:bi l c=some (.pointer<|some ⟨a,o,none⟩))
 (r:aM P n ops Q rest ((d,.pointer<|some ⟨a,o,none⟩)::l) (ag b S cs)):aM P n ops Q (⟨some d,.convert p I c,ty,pos,bf,none⟩::rest) l (ag b S cs):=
 JB _ k (λv s t u=>by
  simp only[execOp,t c _ q];have:=Lib.run_from_unsafe (P:=P) s ⟨a,o,none⟩ e f g (DQ<|u.has h) (by rw[i];exact j)
  simp[this]) r
def TS{H:World->Prop}(b:P.underlying p=some (.pointer J))(c:P.info? J=some y)(e:Nat.blt d n=true)(f:bi l o=some (.pointer<|some F))(g:bi l K=some (.pointer<|some F))
 (h:aM P n ops Q rest ((d,.bool false)::l) H):aM P n ops Q (⟨some d,.binOp .neq p o K I,ty,pos,bf,none⟩::rest) l H:=
 dB _ e (λj i a=>by
  have:=Lib.run_neq_ptr_same (P:=P) i F b c
  simp[execOp,a o _ f,a K _ g,eqGuard,this]) h
def TT{c:List UInt8}(u:dD P a N 1 1 [.int .u8 0])(L: (P.info? N).bind (·.zero)=some (.int .u8 0))(C:P.underlying v=some .string)(Za:Nat.blt d n=true)
 (Zb:bi l o=some (.slice z W.length O)) (Zc:bi l K=some (bU c))
 (M: ∀e f,bC cs (aD N cI z O W) (aD N cI e f<|W++c)<|X e f) (Zn:W.length+c.length<=140737488355328)
 (h: ∀e f,aM P n ops Q rest ((d,.slice e (W++c).length f)::l)<|ag b S<|X e f):
 aM P n ops Q (⟨some d,.call ⟨.builtin .append,#[o,K],#[a,v]⟩,ty,pos,bf,none⟩::rest) l (ag b S cs):=by
 obtain⟨w,Zo,x,Zp,Zq,D,F⟩:=u.inf;have G:w.zero=some (.int .u8 0):=by rw[x] at L;exact L
 refine iv Za λZr i R T=>?_
 have E:i.ownsRow 0 N 1 (.slice z W.length O) W.length (cI.all W):=T.has (M z O).has
 obtain⟨q,j,r,p,y,U⟩ : ∃q j,(Builtin.append_ #[a,v] ty #[.slice z W.length O,.string<|bs c]).run P i= .ok q j/\j.ownsRow 0 N 1 q (W.length+c.length) (cI.all<|W++c)/\i.grownBy j (Value.slice z W.length O).ownBlock/\(∀k,q.ownBlock=some k->(Value.slice z W.length O).ownBlock=some k\/i.heap.size<=k):=by
  have m:=jf c
  have V:cI.all (W++c)=cI.all W++Lib.strCells (bs c):=by rw[DP,b1.all_append]
  rcases E.2 with ⟨H,Zd⟩ | ⟨s,I,A,H,_,Y,Zs,Zt,Zu,Ze⟩
  have Zf:i.ownsRow i.heap.size N 1 (.slice z W.length O) W.length (cI.all W):=⟨E.1,.inl ⟨H,Zd⟩⟩
  obtain⟨q,j,r,p,y,_⟩:=Lib.run_append_own_string (P:=P) (w:=i) i.heap.size a v ty N w u.gf C x G D F (.slice z W.length O) W.length (cI.all W) Zf (bs c) (by rw[m];simp only[maxLen];omega) (by rw[m];omega)<|cC _;rw[m] at p
  refine⟨q,j,r,?_,y,λk g=> .inr ?_⟩;rw[V];refine⟨p.1,?_⟩;rcases p.2 with h | ⟨s,I,A,h⟩
  exact .inl h;exact .inr ⟨s,I,A,h.1,b4 _,h.2.2⟩;rcases p.2 with ⟨h,_⟩ | ⟨s,I,A,h,Zv,_⟩
  rw[h] at g;simp[Value.ownBlock] at g
  rw[h] at g
  simp only[Value.ownBlock,ek] at g
  omega
  injection H with Zg Zw Zh
  subst Zg;subst Zh
  obtain⟨q,j,r,p,y,_⟩:=Lib.run_append_own_string (P:=P) (w:=i) 0 a v ty N w u.gf C x G D F (.slice (some ⟨s,0,none⟩) W.length O) W.length (cI.all W) E (bs c) (by rw[m];simp only[maxLen];omega) (by rw[m];omega)<|b4 _;rw[m] at p
  refine⟨q,j,r,by rw[V];exact p,y,λk g=>?_⟩;by_cases Zi:W.length+c.length<=O
  have B:=Lib.run_append_room_string (P:=P) (w:=i) a v ty N w u.gf C x D s W.length O A Y (bs c) (by rw[m];exact Zi) (by rw[m];omega)
  rw[r] at B
  injection B with J Zj
  rw[J] at g
  exact .inl g;have B:=Lib.run_append_grow_string (P:=P) (w:=i) a v ty N w (.int .u8 0) u.gf C x G ⟨s,0,none⟩ W.length O (cI.all W) (by rw[D];simpa using E.1) (λZk o t=>by
   rw[Addr.add_lit,cell_of_row i s (0+Zk) A N (0,0) Y,ev];have Zx:=(cH.1 t).1
   rw[<-Ze] at t
   rw[iu] at t
   split at t
   simpa using t
   cases t) (bs c) (by rw[m];omega) (by rw[m];omega) (by rw[F,m];exact growslice_fits aa aa)
  rw[r] at B
  injection B with J Zj
  rw[J] at g
  simp only[Value.ownBlock,ek] at g
  exact .inr aa
 obtain⟨e,f,Zl⟩:=Dq (e:=N) (sz:=1) p;have Z:q= .slice e (W++c).length f:=by rw[Zl,b3]
 rw[Z] at r U
 have Zm: (aD N cI e f<|W++c).pred j:=by
  show j.ownsRow 0 N cI.ax (.slice e (W++c).length f) (W++c).length (cI.all<|W++c)
  rw[<-Z,b3];exact p
 refine⟨.slice e (W++c).length f,j,?_,(h e f).at<|T.iM (M e f) (Ext.wz y) Zm ?_ ?_⟩;simp[execOp,resolve,invoke,builtin,R o _ Zb,R K _ Zc]
 simp only[b3] at r
 simp[r]
 intro k g;replace g: (Value.slice e (W++c).length f).ownBlock=some k:=kx.1 g
 rcases U k g with h | h
 exact .inl<|kx.2 h;exact .inr h;show (Value.slice e (W++c).length f).ownBlock.toList.Nodup
 cases (Value.slice e (W++c).length f).ownBlock <;> simp
def JC(a:bM):Prop:=a.bt=none\/a.bt=some ⟨e,6,none⟩
abbrev JD(a:bM):bM:={ a with bt:=some ⟨e,6,none⟩ }
abbrev TU :Value:= .pointer<|some ⟨e,6,none⟩
structure eP (s:bA):Prop where
 g:eM s
 ok:eX s.abs
 small:s.az.s.l.length<=30/\s.az.al<=40/\s.az.r.room<=100
 iB:dd s.abs
abbrev firstT(a:bM):bA:=if a.use=true then a.br else a.am
abbrev DR(a:bM):bA:=if a.use=true then a.am else a.br
structure cK (g:Nat) (R:Int) (m:Nat) (t:bM):Prop where
 am:eP t.am
 br:eP t.br
 room: (firstT t).az.r.room=R/\(DR t).az.r.room=0
 bt:JC g t
 cy:t.cy.length<=256
 bu:t.am.az.bu.l.length+t.br.az.bu.l.length+t.aQ.l.length<=m
 buf:t.buf.l.length<=m
 aQ: ∀c∈t.aQ.l,c.text.length<=256
 md:t.cr<4294967296
def cK.mono{k:Nat}{t:bM}(b:cK a j v t)(c:v<=k):cK a j k t:=⟨b.am,b.br,b.room,b.bt,b.cy,by have:=b.bu;omega,by have:=b.buf;omega,b.aQ,b.md⟩
def hI.room{b:bA}(c:hI a u b):b.az.r.room=u.az.r.room:=c.kept.room
def hI.ok{z:bA}(b:hI a u z)(c:eP u):eP z:=by
 have d:=b.kept.rows
 have e:z.az.al=u.az.al:=b.kept.al
 rw[nR,nR] at d
 exact⟨b.wf,b.kept.wf c.ok,by rw[d,e,b.room];exact c.small,b.iB c.iB⟩
variable {G:bM}
def cK.tG{k:Nat}(b:cK a j v G)(c:hI k G.am u):cK a j (v+k) { G with am:=u }:=by
 refine⟨c.ok b.am,b.br,?_,b.bt,b.cy,?_,by have:=b.buf;dsimp only;omega,b.aQ,b.md⟩;have:=b.room
 unfold firstT DR at this ⊢
 dsimp only;by_cases d:G.use=true
 rw[aB d,aB d] at this ⊢;exact⟨this.1,c.room.trans this.2⟩
 rw[ai d,ai d] at this ⊢;exact⟨c.room.trans this.1,this.2⟩
 have e:=b.bu
 have f:u.az.bu.l.length<=G.am.az.bu.l.length+k:=c.kept.bu
 dsimp only;omega
def cK.TV{k:Nat}(b:cK a j v G)(c:hI k G.br u):cK a j (v+k) { G with br:=u }:=by
 refine⟨b.am,c.ok b.br,?_,b.bt,b.cy,?_,by have:=b.buf;dsimp only;omega,b.aQ,b.md⟩;have:=b.room
 unfold firstT DR at this ⊢
 dsimp only;by_cases d:G.use=true
 rw[aB d,aB d] at this ⊢;exact⟨c.room.trans this.1,this.2⟩
 rw[ai d,ai d] at this ⊢;exact⟨this.1,c.room.trans this.2⟩
 have e:=b.bu
 have f:u.az.bu.l.length<=G.br.az.bu.l.length+k:=c.kept.bu
 dsimp only;omega
def tH{t:bM}(b:u.g=t.am.g):eu a v { t with am:=u } = eu a v t:=by
 simp only[eu,n2,bM.cG,bM.dY,bM.DO,b]
def TW{t:bM}(b:u.g=t.br.g):eu a v { t with br:=u } = eu a v t:=by
 simp only[eu,n2,bM.cG,bM.dY,bM.DO,b]
def js(a:Int)(b:Nat)(c:Value)(d:bM)(f:World):Ending->World->Prop:=aX (λ_:bM=>c) (b0 e x C d) (b0 e x C) (cK e a b) f
def gl(h:bM)(d: (eu e x h).pred f):ay 33 [ptr e] f (Pure (ptr h.am.g) f):=by
 obtain⟨m,n,k,o,p,q,r,s⟩:=h;refine ba func33 ntmps33 ?_;cases k with
 | false=>
  refine fa ?_;refine bN [0,1,2,3,4,5,6,7,8,9] 0 [[]] ?_;refine a7 ?_;refine aO rfl (λc a=>(bb bY rfl rfl (λi b=>by subst b;exact a.cc d (by (simp;done)) rfl) aJ)) ?_;refine aA ?_;refine aO rfl (λc a=>(sQ (q:=0) underlying117 rD rfl rfl rfl bo aa aJ)) ?_;refine aO rfl (λc a=>(bb sZ rfl rfl (λi b=>by subst b;exact a.cc (o:=1) d au rfl) aJ)) ?_;refine aH ?_;exact λl j=>⟨rfl,j.ext⟩
 | true=>
  refine fa ?_;refine bN [0,1,2,3,4,5,6,7,8,9] 0 [[]] ?_;refine a7 ?_;refine aO rfl (λc a=>(bb bY rfl rfl (λi b=>by subst b;exact a.cc d (by (simp;done)) rfl) aJ)) ?_;refine aA ?_;refine aO rfl (λc a=>(sQ (q:=1) underlying117 rD rfl rfl rfl bo aa aJ)) ?_;refine aO rfl (λc a=>(bb sZ rfl rfl (λi b=>by subst b;exact a.cc (o:=2) d au rfl) aJ)) ?_;refine aH ?_;exact λl j=>⟨rfl,j.ext⟩
def pK(a:bM)(b: (eu e x a).pred f):ay 16 [ptr e] f (Pure (ptr (firstT a).g) f):=by
 obtain⟨i,j,c,k,l,m,n,o⟩:=a;refine ba func16 ntmps16 ?_;refine gR ?_;refine sQ (q:=0) underlying117 rD rfl rfl rfl bo aa<|bb sZ rfl rfl (λp d=>d.cc (o:=1) b au rfl)<|aI ?_;exact λq h=>⟨by cases c <;> rfl,h.ext⟩
section
variable {H:World->Prop}
variable {cs':List Chunk}
def TX(b:Nat.blt d n=true)(c:bi l o=some (.slice (some F) a v))(e:v≠0)
 (f:aM P n ops Q rest ((d,.pointer<|some F)::l) H):aM P n ops Q (⟨some d,.call ⟨.builtin .unsafeSliceData,#[o],#[p]⟩,ty,pos,bf,none⟩::rest) l H:=
 dB _ b (λi g h=>by
  have:=Lib.run_unsafeSliceData_row (P:=P) (w:=g) #[p] ty F a v e
  simp[execOp,resolve,invoke,builtin,h o _ c,this]) f
def DS :Chunk:=⟨[e],λa=>e<a.heap.size,λa c b f=>by rw[e0.1 f];exact c,λa h c g=>by
 have d:=c e au
 rw[rf g] at d
 exact (lr.1 d).1⟩
def Ext.frozen :Ext [e] f (f.freeze ⟨e,0,none⟩ x):=by
 unfold World.freeze;split
 exact Ext.refl _ _;exact⟨rfl,rfl,rfl,by simp,λc d a=>by
  simp only[rg];rw[ai λb=>a<|by simp[b]]⟩
def TY{f:Nat}{L:List UInt8}(s:P.underlying a=some (.pointer N))(t:P.cellsOf N=1)(k:L≠[])(m:bH cs (aD N cI (some ⟨O,0,none⟩) f L) cs')(u:Nat.blt d n=true)
 (w:bi l o=some (.pointer<|some ⟨O,0,none⟩)) (x:bi l K=some (ad (L.length:Int)))
 (y:aM P n ops Q rest ((d,bU L)::l) (ag b S cs')):aM P n ops Q (⟨some d,.call ⟨.builtin .unsafeString,#[o,K],#[a,v]⟩,ty,pos,bf,none⟩::rest) l (ag b S cs):=by
 refine iv u λM c p q=>?_
 have z:c.ownsRow 0 N 1 (.slice (some ⟨O,0,none⟩) L.length f) L.length (cI.all L):=(q.perm m.perm).has .head
 have A:L.length≠0:=by simpa using k
 obtain⟨e,h,R,B,T,C⟩ : ∃e:Array Value,c.heap[O]? = some (.cells e N (0,0))/\L.length<=f/\f<=maxLen/\e.size=f*1/\e.toList.take (L.length*1)=cI.all L:=by
  rcases z.2 with ⟨_,i⟩ | ⟨U,V,e,D,_,E⟩
  exact absurd i A;injection D with j W F
  cases j;cases F
  exact⟨e,E⟩
 have G: (Builtin.unsafeString_ #[a,v] ty #[.pointer (some ⟨O,0,none⟩),ad (L.length:Int)]).run P c= .ok (.string ⟨L.toArray⟩) (c.freeze ⟨O,0,none⟩ L.length):=by
  refine Lib.run_unsafeString_row c a v ty N s t O e.size (by simp[World.shape?,h]) L k aa (by unfold maxLen at B;omega) ?_;intro r H i;rw[Addr.add_lit,cell_of_row c O (0+r) e N (0,0) h,ev];have g: (cI.all L)[r]? = some (.int .u8 H.toNat):=by
   rw[<-DP];simp[Lib.strCells,bs,i]
  rw[<-C,iu] at g
  split at g
  simpa using g
  cases g
 refine⟨bU L,c.freeze ⟨O,0,none⟩ L.length,?_,y.at ?_⟩;have j:bs L=⟨L.toArray⟩:=rfl
 simp[execOp,resolve,invoke,builtin,p o _ w,p K _ x,G,j]
 have I:O<c.heap.size:=(lr.1 h).1
 have g:ag b S (DS O::cs') (c.freeze ⟨O,0,none⟩ L.length):=(q.perm m.perm).iM (c:=aD N cI (some ⟨O,0,none⟩) f L) (c':=DS O) bC.head (Ext.frozen c O _) (qa I (Ext.frozen c O _).size) (λX J=> .inl J) (by simp[DS])
 exact g.rem bH.head
end
def sc{l:List Y}{c:Y}(b:l[a]? = some c):l.set a c=l:=by
 have d:=(cH.1 b).1
 apply jY
 intro f;rw[nB];split
 rename_i e;subst e;first | rw[aB d,b] | exact b.symm
 rfl
abbrev pL(te:TypeId)(n a:Nat)(t:TypeId):Prop:=liesAt prog prog.depth te (n/prog.cellsOf te) a t 1=true
def TZ{xs:List Value}(h:bc f [aG a xs p])(d:xs[v]? = some (.pointer z))(i:z=none\/z=some ⟨a,v,none⟩)(j:pL p xs.length v (t:=104)):ay 161 [.pointer (some ⟨a,v,none⟩)] f
 (aX (λ_:Unit=> .tuple #[]) [aG a xs p] (λ_=>[aG a (xs.set v<|.pointer<|some ⟨a,v,none⟩) p]) (λ_=>True) f):=by
 have g:=(cH.1 d).1
 have k: ∃b,prog.info? 104=some b/\b.size≠0:=by
  have e: (prog.info? 104).map (λb=>Nat.beq b.size 0)=some false:=by kernel_rfl
  cases c:prog.info? 104 with
  | none=>rw[c] at e;cases e
  | some b=>
   rw[c] at e
   refine⟨b,rfl,λl=>?_⟩;simp[l] at e
 obtain⟨b,c,m⟩:=k;refine calls (n:=20) func161 rfl ntmps161 rfl ?_;refine dh ?_ (Sub.refl _) h.start;rcases i with rfl | rfl
 refine aI ?_;refine k8 wI rfl rfl bw d<|aU ?_;refine TQ underlying102 underlying328 c m (xs:=_) bw g rfl rfl ?_;refine GC rfl rfl (λo _=>by rw[run_callFunc_extern func239 ak ak ak (e:=Extern.AbiNoEscape.same) ak];rw[Lib.run_noEscape];rfl) ?_;refine TR (m:=xs.length) (o:=v) underlying328 underlying102 c (xs:=_) bw rfl j rfl rfl<|aA ?_;refine iN wI rfl rfl cJ rfl g<|aA ?_;exact bT () bh;refine aI ?_;refine k8 wI rfl rfl bw d<|a6 ?_;refine k8 wI rfl rfl bw d<|av ?_;refine TS underlying102 c rfl rfl rfl<|aI ?_;intro q n;rw[sc d];exact eV () bh n
def o2{o:Nat}{xs:List Value}{ba:Option Addr}{z:hR}(e:bc f [aG a xs p,z.aD])(g:xs[o]? = some (.pointer ba))(d:xs[o+1]? = some z.val)(h:ba=none\/ba=some ⟨a,o,none⟩)(i:pL p xs.length o (t:=104))(b:List UInt8)(j:z.l.length+b.length<=140737488355328):ay 99 [.pointer (some ⟨a,o,none⟩),bU b] f
 (aX (λ_:hR=> .tuple #[ad (b.length:Int),.nilIface]) [aG a xs p,z.aD] (λc=>[aG a ((xs.set o<|.pointer<|some ⟨a,o,none⟩).set (o+1) c.val) p,c.aD]) (λc=>c.l=z.l++b) f):=by
 have k:=(cH.1 d).1
 have m: (xs.set o<|.pointer<|some ⟨a,o,none⟩)[o+1]? = some z.val:=by rw[ks aa];exact d
 refine bX func99 ntmps99 e ?_;refine a6 ?_;refine dE (TZ · · g h i) λ_ _=>?_;refine aY ?_;refine k8 oB rfl rfl bw m<|av ?_;refine TT hC ak underlying9 rfl rfl rfl (λ_ _=>fs) j λn q=>aA ?_;refine iN oB rfl rfl cJ rfl (by rw[gx];exact k) ?_;refine b6 ?_;exact bT ⟨n,q,z.l++b⟩ rfl
def DT(a:bM)(d:bc f [eu e x a,a.buf.aD])(g:JC e a)(b:List UInt8)(h:a.buf.l.length+b.length<=140737488355328):ay 99 [TU e,bU b] f
 (aX (λ_:hR=> .tuple #[ad (b.length:Int),.nilIface]) [eu e x a,a.buf.aD] (λc=>[eu e x { JD e a with buf:=c },c.aD]) (λc=>c.l=a.buf.l++b) f):=
 o2 f (o:=6) d rfl rfl g (show pL (te:=124) 9 6 (t:=104) by unfold pL;kernel_rfl) b h
def e2.k{s:bA}{b:a1}{w:World}{c:Ending}(d:e2 s Z b w c E)(e:ds a s.abs b)(f:dd s.abs->dd b):fj a s Z w c E:=aX.mono d λg h=>⟨g,h.im e f,rfl,rfl⟩
section
variable {w:World}{s:bA}
def T0(b:bc w (a8 s))(a:eP s):ay 176 [ptr s.g] w (fj 0 s (.tuple #[]) w):=(Qz w s b a.g a.ok).mono λ_ _ c=>c.k (Qy _)<|tA _
def JE(b:bc w (a8 s))(a:eP s)(d:s.az.bu.l.length<=1480000000000):ay 178 [ptr s.g] w (fj 2 s (.tuple #[]) w):=(zH w s b a.g a.ok aa).mono λ_ _ c=>c.k (u9 _) xo
def vE(a:bc w (a8 s))(b:eP s):ay 180 [ptr s.g] w (fj 0 s (.tuple #[]) w):=(H5 w s a b.g).mono λ_ _ c=>c.k (va _)<|tA _
def Ar(d:bc w (a8 s))(a:eP s)(b c:Int):ay 284 [ptr s.g,ad b,ad c] w (fj 0 s (.tuple #[]) w):=(xh w s d a.g a.ok b c).mono λ_ _ e=>e.k (xg _ _ _)<|xp _ _
def pM(e:bc w (a8 s))(c:eP s)(d b:Int):ay 283 [ptr s.g,ad d,ad b] w (fj 0 s (.tuple #[]) w):=(QU w s e c.g c.ok d b).mono λ_ _ f=>f.k (QR _ _ _) λb=>⟨b.p,b.a,b.v⟩
def T1(d:bc w (a8 s))(a:eP s)(b c:Int):ay 295 [ptr s.g,ad b,ad c] w (fj 0 s (.tuple #[]) w):=(QO w s d a.g a.ok b c).mono λ_ _ e=>e.k (QM _ _ _)<|RU _ _
def JF(e:bc w (a8 s))(f:eP s)(d b c:Bool):ay 366 [ptr s.g,.agg [.bool d,.bool b,.bool c].toArray] w (fj 0 s (.tuple #[]) w):=(QP w s e f.g d b c).mono λ_ _ c=>c.k (vd _ _) λb=>⟨b.p,b.a,b.v⟩
def pN(d:bc w (a8 s))(e:eP s)(c:gE):ay 181 [ptr s.g,.agg c.enc.toArray] w (fj 0 s (.tuple #[]) w):=(QS w s d e.g c).mono λ_ _ f=>f.k (vd _ _) λb=>⟨b.p,b.a,b.v⟩
def T2(c:bc w (a8 s))(a:eP s)(b:Int):ay 276 [ptr s.g,ad b] w (fj 0 s (.tuple #[]) w):=(CJ w s c a.g a.ok b).mono λ_ _ d=>d.k (xj _ _)<|C0 _
def qU(c:bc w (a8 s))(a:eP s)(e:s.az.bu.l.length<=1480000000000)(b:Int):ay 275 [ptr s.g,ad b] w (fj 1 s (.tuple #[]) w):=(QW w s c a.g a.ok aa b).mono λ_ _ d=>d.k (QV _ _)<|R2 _
def T3(c:bc w (a8 s))(a:eP s)(b:Int):ay 285 [ptr s.g,ad b] w (fj 0 s (.tuple #[]) w):=(QD w s c a.g a.ok b).mono λ_ _ d=>d.k (QA _ _)<|RV _
def T4(c:bc w (a8 s))(a:eP s)(b:Int):ay 288 [ptr s.g,ad b] w (fj 0 s (.tuple #[]) w):=(QE w s c a.g a.ok b).mono λ_ _ d=>d.k (QB _ _)<|RW _
def T5(c:bc w (a8 s))(a:eP s)(e:s.az.bu.l.length<=1480000000000)(b:Int):ay 286 [ptr s.g,ad b] w (fj 2000 s (.tuple #[]) w):=(QK w s c a.g a.ok aa b).mono λ_ _ d=>d.k (QG _ (vc a.ok) _)<|RY _
def T6(c:bc w (a8 s))(a:eP s)(e:s.az.bu.l.length<=1480000000000)(b:Int):ay 287 [ptr s.g,ad b] w (fj 2000 s (.tuple #[]) w):=(QL w s c a.g a.ok aa b).mono λ_ _ d=>d.k (QH _ (vc a.ok) _)<|RZ _
def JG(c:bc w (a8 s))(a:eP s)(e:s.az.bu.l.length<=1480000000000)(b:Int):ay 289 [ptr s.g,ad b] w (fj 2000 s (.tuple #[]) w):=(QJ w s c a.g a.ok aa b).mono λ_ _ d=>d.k (QI _ (vc a.ok) _)<|R0 _
def T7(c:bc w (a8 s))(a:eP s)(e:s.az.bu.l.length<=1480000000000)(b:Int):ay 291 [ptr s.g,ad b] w (fj 2000000 s (.tuple #[]) w):=(Q0 w s c a.g a.ok aa b).mono λ_ _ d=>d.k (QZ _ _ a.ok)<|RR _
def vF(b:bc w (a8 s))(a:eP s):ay 256 [ptr s.g] w (fj 0 s (.tuple #[]) w):=(TA w s b a.g a.ok).mono λ_ _ c=>c.k (QQ _) R4
def T8(b:bc w (a8 s))(a:eP s):ay 351 [ptr s.g] w (fj 0 s (.tuple #[]) w):=(Rk w s b a.g a.ok).mono λ_ _ c=>c.k (Rh _) R5
def DU(b:bc w (a8 s))(a:eP s):ay 280 [ptr s.g] w (fj 0 s (.tuple #[]) w):=(Rf w s b a.g a.ok.bz).mono λ_ _ c=>c.k (Rb _) R6
def T9(b:bc w (a8 s))(a:eP s)(d:s.az.bu.l.length<=1480000000000):ay 258 [ptr s.g] w (fj 2 s (.tuple #[]) w):=(Qs w s b a.g a.ok aa).mono λ_ _ c=>c.k (Qo _) RP
def T_(bs:List Bool)(a:Nat)(b:a<bs.length):dw.kP bs a<bs.length:=dw.HC a aa
def Ua(bs:List Bool)(a:Nat)(b:a<bs.length):dw.j_ bs a<bs.length:=by have:=dw.CC bs a;omega
def Ub(n:Nat)(a:Int)(b:0<n):dw.zv n a<n:=by unfold dw.zv;omega
def xd(d: ∀b,b<a->B b<a): ∀k b,b<a->dw.iter B k b<a
 | 0,_,c=>c
 | k+1,b,c=>d _<|xd d k b c
def JH{len:Nat}(b: ∀a,a<len->B a<len)(a c:Int)(d:0<len):dw.pw B len a c<len:=xd b _ _<|Ub _ _ d
def Uc(s:bA)(b:eP s)(a:Int):ds 0 s.abs (r2 s.abs a):=by
 have c:=b.g.n
 have h:=(b.ok.nums).2.1
 have d:0<s.st.bs.length:=by omega
 have e:=JH (T_ s.st.bs) (gb s.abs) a d
 have f:=JH (Ua s.st.bs) (gb s.abs) (max 0<|0 - max a (-1000)) d
 unfold r2;split
 exact ds.refl _;split
 refine qC _ λ_=>?_;show _/\_<=s.az.al
 rw[<-c];exact⟨ri _,Int.ofNat_le.2<|Nat.le_of_lt e⟩;refine qC _ λ_=>?_;show _/\_<=s.az.al
 rw[<-c];exact⟨ri _,Int.ofNat_le.2<|Nat.le_of_lt f⟩
def DV(d:bc w (a8 s))(a:eP s)(e: ∀c,Ext (aK<|a8 s) w c->dw.oQ c)(b:Int):ay 177 [ptr s.g,ad b] w (fj 0 s (.tuple #[]) w):=(QX w s d e a.g a.ok b).mono λ_ _ f=>f.k (Uc s a b)<|R3 _
end
namespace eh
def tI:List Int:=[4,20,1,5,6,7,25,47,66,1000,1002,1003,1004,1006,1047,1048,1049,2004]
abbrev As:List Value:=tI.map<|Value.int .i64
def mo(a:Nat):Bool:=decide (tI[a]? = some h) && (i == decide (2<=a))
def lQ :Option Nat:=(List.range 18).find?<|mo i h
def lR :Int:=match lQ i h with | some a=>(a:Int) | none=> -1
def At(b:lQ q j=some a):a<18:=by
 have:=List.mem_of_find?_eq_some b
 simpa using this
def Ud(b:lQ q j=some a):mo q j a=true:=List.find?_some b
def Ue(b:mo q j a=true)(c:mo q j v=true):a=v:=by
 have d: ∀a,a<18-> ∀v,v<18->tI[a]? = tI[v]? ->a=v:=by decide
 simp only[mo,dK,eQ] at b c
 have e:=(cH.1 b.1).1
 have f:=(cH.1 c.1).1
 exact d a e v f<|b.1.trans c.1.symm
def Uf{k:Nat}(a:mo q j k=true):lQ q j=some k:=by
 have c:k<18:=by
  simp only[mo,dK,eQ] at a
  exact (cH.1 a.1).1
 cases b:lQ q j with
 | none=>
  have:=List.find?_eq_none.1 b k (by simpa using c)
  exact absurd a this
 | some d=>rw[Ue a (Ud b)]
def Ug(b: ∀a,a<18->mo q j a=false):lQ q j=none:=by
 refine List.find?_eq_none.2 λa c=>?_
 rw[b a (by simpa using c)];simp
def r5 :ay 244 [] f (λa b=>a= .returned (.agg As.toArray)/\Ext [] f b):=by
 refine ba func244 ntmps244 ?_;refine ap ?_;intro d e g;refine aI ?_;refine fR N7 rfl rfl cJ bo (aV.cons rfl<|aV.cons rfl<|aV.cons rfl<|aV.cons rfl<|aV.cons rfl<|aV.cons rfl<|aV.cons rfl<|aV.cons rfl<|hg rfl rfl rfl rfl rfl rfl rfl rfl rfl rfl) (ej rfl)<|a7 ?_;exact λh c=>⟨rfl,c.ext⟩
def uO(b:Bool)(c:Int):ay 168 [.bool b,ad c] f (λr j=>r= .returned (ad<|lR b c)/\Ext [] f j):=by
 refine ba func168 ntmps168 ?_;refine aY ?_;refine bF (r5 ·)<|a7 ?_;refine cd (ι:=Nat) (λi=>[(0,.bool b),(1,ad c),(7,.agg As.toArray),(8,ad (i:Int))]) (λ_=>ag f [] []) (λi=>i<=18/\ ∀a,a<i->mo b c a=false) (λi=>18 - i) ?_ ?_;exact λf d=>⟨0,⟨aa,by intro a p;omega⟩,(da rfl rfl rfl rfl),d⟩
 rintro i ⟨y,k⟩;refine (aE) (λs=>?_) λs=>?_;obtain⟨x,q⟩ : ∃x,tI[i]? = some x:=⟨tI[i]'(by simp[tI];omega),bD _⟩;have t:As[i]? = some (ad x):=by rw[As,fw,q];rfl
 refine aU ?_;refine nH (q:=i) underlying332 bY rfl rfl rfl aa aa t<|be ?_;have u:decide (2<=i)=decide ((2 :Int)<=(i:Int)):=by rw[iK];omega
 have l:mo b c i=(decide (x=c) && (b == decide ((2 :Int)<=(i:Int)))):=by simp only[mo,q,u,ek]
 refine bl 15 rfl (λm=>?_) λm=>?_;have g:=bg m
 refine aU ?_;refine BD underlying4 rfl rfl rfl ?_;refine (aE) (λn=>cn ?_) λn=>aU ?_;intro v d;refine⟨?_,d.ext⟩;have e:mo b c i=true:=by rw[l,g];simpa using n
 rw[lR,Uf e];have e:mo b c i=false:=by rw[l,g];simpa using n
 refine bv (i+1) ⟨aa,λa p=>?_⟩ aa (da rfl rfl rfl rfl) λj o=>o;rcases fd a i with h | h
 exact k a h;obtain rfl:a=i:=by omega
 exact e;have g:=bm m
 refine dO ?_;have e:mo b c i=false:=by rw[l];simp only[wq];exact .inl (by simpa using g)
 refine bv (i+1) ⟨aa,λa p=>?_⟩ aa (da rfl rfl rfl rfl) λj o=>o;rcases fd a i with h | h
 exact k a h;obtain rfl:a=i:=by omega
 exact e;have w:i=18:=by omega
 subst w;refine b6 ?_;intro v d;refine⟨?_,d.ext⟩;rw[lR,Ug k]
def Uh : -1<=lR i h/\lR i h<18:=by
 unfold lR;split
 rename_i b a;have:=At a
 omega
 omega
def Ui :ay 278 [.bool i,ad h] f (λa b=>a= .returned (.bool (lQ i h).isSome)/\Ext [] f b):=by
 refine ba func278 ntmps278 ?_;refine a6 ?_;refine bF (uO · i h)<|aH ?_;intro d c;refine⟨?_,c.ext⟩;unfold lR;cases lQ i h with
 | some e=>simp
 | none=>simp
abbrev tJ :Value:= .agg #[.int .u32 (e:Int)]
def cX(b:Bool):Nat:=
 match lQ i h with
 | none=>e
 | some a=>if b then e ||| 2 ^ a else e &&& (4294967295 - 2 ^ a)
def qV(b:a<4294967296)(c:Bool)(d:Int)(e:Bool):cX a c d e<4294967296:=by
 unfold cX;split
 exact b;rename_i g f;have:=At f
 split
 exact ou (n:=32) b<|sL aW aa;exact ot uo b
def JI(c:a<18):IntKind.u32.wrap (1*2 ^ min ((a:Int)).toNat IntKind.u32.bits)=((2 ^ a:Nat):Int):=by
 have b:2 ^ a<4294967296:=sL (n:=32) aW aa
 rw[gw,jZ<|by simp only[IntKind.bits];omega,Int.one_mul];have: ((2 :Int) ^ a)=((2 ^ a:Nat):Int):=by simp
 rw[this];exact y0 (ri _)<|Int.ofNat_lt.2 b
def qq(g:e<4294967296)(a:Bool)(b:Int)(i:Bool):
 ay 104 [tJ e,.bool a,ad b,.bool i] f (λr s=>r= .returned (tJ<|cX e a b i)/\Ext [] f s):=by
 have w:=Uh a b
 refine ba func104 ntmps104 ?_;refine ap ?_;intro x y z;refine av ?_;intro A B C;refine aH ?_;refine bF (uO · a b) ?_;refine (aE) (λc=>bP ?_) λc=>?_;intro p d;refine⟨?_,d.ext⟩;unfold cX;unfold lR at c
 cases j:lQ a b with
 | none=>rfl
 | some k=>rw[j] at c;simp at c;omega
 obtain⟨k,h⟩ : ∃k,lQ a b=some k:=by
  unfold lR at c
  cases j:lQ a b with
  | none=>rw[j] at c;simp at c
  | some k=>exact⟨k,rfl⟩
 have t:lR a b=(k:Int):=by rw[lR,h]
 have q:=At h
 rw[t];refine aH ?_;have l:2 ^ k<4294967296:=sL (n:=32) aW aa
 have u:e ||| 2 ^ k<4294967296:=ou (n:=32) g l
 have v:e &&& (4294967295 - 2 ^ k)<4294967296:=ot uo g
 refine cD rfl (λm=>?_) λm=>?_;refine bN [0,1,2,3,4,5] 1 [[(6,true,[])]] ?_;refine ap ?_;refine aO rfl (λn o=>(pj (r:=((2 ^ k:Nat):Int)) rfl rfl rfl aa (JI q) aJ)) ?_;refine aO rfl (λn o=>(mO (r:=((e ||| 2 ^ k:Nat):Int)) rfl rfl rfl (or_eq (m:=e) (n:=2 ^ k) rfl rfl g l<|y0 (ri _)<|Int.ofNat_lt.2 u) aJ))<|ft ?_;intro p d;refine⟨?_,d.ext⟩;rw[cX,h,m];rfl
 refine bN [0,1,2,3,4,5] 1 [[(6,true,[])]] ?_;refine ap ?_;refine aO rfl (λn o=>(pj (r:=((2 ^ k:Nat):Int)) rfl rfl rfl aa (JI q) aJ)) ?_;refine aO rfl (λn o=>(uG (r:=((e &&& (4294967295 - 2 ^ k):Nat):Int)) rfl rfl rfl (BU (m:=e) (n:=2 ^ k) rfl rfl g l<|y0 (ri _)<|Int.ofNat_lt.2 v) aJ))<|ft ?_;intro p d;refine⟨?_,d.ext⟩;rw[cX,h];have:i=false:=by simpa using m
 rw[this];rfl
def DW :Bool:=decide<|e/2 ^ x%2=1
def tK :Bool:=match lQ i h with | some a=>DW e a | none=>false
def Uj(a:e<4294967296):IntKind.u32.wrap ((BitVec.ofInt IntKind.u32.bits ((e:Int)/2 ^ min ((x:Int)).toNat 32) &&& BitVec.ofInt IntKind.u32.bits 1).toNat:Int)=((e/2 ^ min x 32%2 :Nat):Int):=by
 have b:e/2 ^ min x 32<4294967296:=ot (Nat.div_le_self _ _) a
 refine and_eq (m:=e/2 ^ min x 32) (n:=1) ?_ rfl b aW ?_;rw[gw,Int.natCast_ediv];simp
 rw[Nat.and_one_is_mod];exact y0 aa aa
def sd(h:e<4294967296)(a:Bool)(b:Int):
 ay 179 [tJ e,.bool a,ad b] f (λi j=>i= .returned (.bool<|tK e a b)/\Ext [] f j):=by
 refine ba func179 ntmps179 ?_;refine ap ?_;intro n o p;refine aU ?_;refine bF (uO · a b)<|aY ?_;cases c:lQ a b with
 | none=>
  have d:lR a b= -1:=by rw[lR,c]
  rw[d];refine b6 ?_;exact λl g=>⟨by rw[tK,c],g.ext⟩
 | some k=>
  have d:lR a b=(k:Int):=by rw[lR,c]
  have q:=At c
  rw[d];refine bO rfl rfl au ?_;refine av ?_;refine bO rfl rfl au ?_;refine av ?_;refine bO rfl rfl au ?_;refine av ?_;refine bO rfl rfl au ?_;refine rJ rfl rfl rfl aa rfl ?_;refine bO rfl rfl au ?_;refine rI rfl rfl rfl (Uj e k h) ?_;refine bO rfl rfl au ?_;refine av ?_;refine mF rfl rfl au rfl ?_;refine aI ?_;intro l g;refine⟨?_,g.ext⟩;have m:decide (((e/2 ^ k%2 :Nat):Int)=1)=DW e k:=by
   rw[DW,iK];exact Int.ofNat_inj (n:=1)
  rw[tK,c,jZ aa,m]
def vG :List UInt8:=(if i then [63] else [])++Lib.itoa h
def JJ(a: -9223372036854775808<=h/\h<=9223372036854775807): (vG i h).length<=22:=by
 have:=Lib.itoa_length_le h a.1 a.2
 unfold vG;rw[b3];split <;> simp <;> omega
def DX(h:fJ f)(i:Bool)(a:Int)(c: -9223372036854775808<=a/\a<=9223372036854775807):
 ay 279 [.bool i,ad a] f (λj b=>j= .returned (bU<|vG i a)/\Ext [] f b):=by
 have l:=Lib.itoa_length_le a c.1 c.2
 refine ba func279 ntmps279 ?_;refine bP ?_;refine cD rfl (λd=>ap ?_) λd=>aI ?_;refine bd (λb e=>qJ b (h.ext e.ext) a c)<|eb rfl rfl rfl cg<|aH ?_;exact λk g=>⟨by rw[vG,aB d],g.ext⟩
 refine bd (λb e=>qJ b (h.ext e.ext) a c)<|aI ?_;exact λk g=>⟨by rw[vG,ai<|by simp[d]];rfl,g.ext⟩
def pO:Nat:=96
def Uk:cX (cX 0 true 7 true) true 25 true=pO:=by decide
def u7 :ay 46 [] f (λa b=>a= .returned (tJ pO)/\Ext [] f b):=by
 refine ba func46 ntmps46 ?_;refine ap ?_;intro d e g;refine aI ?_;refine bF (hargs:=rfl) (qq · 0 aW true 7 true)<|bF (hargs:=rfl) (qq · _ (qV aW _ _ _) true 25 true) ?_;rw[Uk];refine aI ?_;exact λh c=>⟨rfl,c.ext⟩
def se :List UInt8:=[27,91]++vG i h++[59]++[if tK e i h then 49 else if (lQ i h).isSome then 50 else 48]++[36,121]
def JK(j:fJ f)(g:Nat)(m:g<4294967296)(b:Bool)(a:Int)(h: -9223372036854775808<=a/\a<=9223372036854775807):
 ay 192 [tJ g,.bool b,ad a] f (λn c=>n= .returned (bU<|se g b a)/\Ext [] f c):=by
 have o:=JJ b a h
 refine ba func192 ntmps192 ?_;refine ap ?_;intro p q r;refine dO ?_;refine bF (sd · g m b a)<|ap ?_;refine cD rfl (λi=>a6 ?_) λi=>a7 ?_;refine bd (λc d=>DX c (j.ext d.ext) b a h)<|eb rfl rfl rfl cg<|eb rfl rfl rfl cg<|av ?_;refine eb rfl rfl rfl cg<|eb rfl rfl rfl cg<|aI ?_;exact λl e=>⟨by rw[se,aB i],e.ext⟩
 refine bF (Ui · b a)<|ap ?_;refine cD rfl (λk=>a6 ?_) λk=>aU ?_;refine bd (λc d=>DX c (j.ext d.ext) b a h)<|eb rfl rfl rfl cg<|eb rfl rfl rfl cg<|av ?_;refine eb rfl rfl rfl cg<|eb rfl rfl rfl cg<|aI ?_;exact λl e=>⟨by rw[se,ai<|by simp[i],aB k],e.ext⟩
 refine bd (λc d=>DX c (j.ext d.ext) b a h)<|eb rfl rfl rfl cg<|eb rfl rfl rfl cg<|av ?_;refine eb rfl rfl rfl cg<|eb rfl rfl rfl cg<|aI ?_;exact λl e=>⟨by rw[se,ai<|by simp[i],ai<|by simp[k]],e.ext⟩
