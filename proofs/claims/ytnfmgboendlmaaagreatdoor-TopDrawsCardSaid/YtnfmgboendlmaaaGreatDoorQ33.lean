/- part 33 of the proof -/
import Derived.Test.YtnfmgboendlmaaaGreatDoorQ32
set_option linter.all false
namespace Go.Proofs.YtnfmgboendlmaaaGreatDoor.Mq
open RowKit Tryz
variable {n:Nat}
variable {f:Int}{r:List Chunk}{j:List Nat}{y:List bG}{E m:Nat}{w:Option Addr}{G:Type}{k:World}{i:bG}(d:World)(D:fb)(J:Option Addr)(u:bG)(C:Int)(H:iY)(B:Nat)
def x4(A:Option Addr)(a:Nat): (if a=0 then A else A.map λb=>b.add<|0*2)=A:=by
 split
 rfl
 cases A with
 | none=>rfl
 | some c=>simp[Addr.add]
def b1.EB(a:b1 G)(b:List G)(c:Nat):a.all (b.take c)=(a.all b).take (c*a.ax):=by
 conv=>rhs;rw[<-iJ c b,a.all_append]
 by_cases d:c<=b.length
 rw[List.take_left' (by rw[a.eD,dR,jZ d])];rw[eT (l:=b) aa,p5 aa];show _=(a.all b++[]).take _
 rw[eZ,eT<|by rw[a.eD];exact mB _ aa]
def WU{w:World}{a:Option Addr}(b:E<=y.length)(d: (Mq.aD 44 c1 a m y).pred w): (Mq.aD 44 c1 a m<|y.take E).pred w:=by
 have c:=Ey (e:=44) (sz:=c1.ax) b d
 rw[<-b1.EB] at c
 show w.ownsRow 0 _ _ (.slice a (y.take E).length m) (y.take E).length _
 rw[dR,jZ b];exact c
def WV(G:bc d (gM H))(x:tT H)(h:fb):ay 128 [ptr H.g,tS h] d (Ex H (.tuple #[]) d):=by
 have q:=x.len
 have s:=x.most
 obtain⟨l,⟨b,c,a⟩,m⟩:=H;dsimp only at q s
 refine bX func128 ntmps128 G ?_;refine ap ?_;intro B Zd Ze;refine bP ?_;refine bF (AZ · h)<|aI ?_;refine cD rfl (λI=>ap ?_) λI=>aY ?_;exact bT ⟨l,⟨b,c,a⟩,m⟩ ⟨rfl,rfl,x⟩;refine gp 0 0 eR rfl rfl (.inr ⟨rfl,rfl⟩) (.inl ⟨_,_,rfl,rfl,rfl⟩) aa aa ?_;rw[x4];refine dO ?_;refine cd (ι:=Nat × Nat × List bG) (λi=>[(0,ptr l),(3,ptr B),(4,.slice b i.2.1 c),(22,.slice b a.length c),(23,ad (a.length:Int)),(24,ad (i.1 :Int))]) (λi=>ag d (aK<|gM ⟨l,⟨b,c,a⟩,m⟩) [aG B h.enc 232,aG l [.slice b a.length c,ad m] 226,own 44 c1.ax (.slice b a.length c) a.length<|c1.all i.2.2]) (λi=>i.1<=a.length/\i.2.1<=i.1/\i.2.2.length=a.length) (λi=>a.length - i.1) ?_ ?_;exact λt J=>⟨(0,0,a),⟨b4 _,cC _,rfl⟩,(jF rfl rfl rfl rfl rfl rfl),J⟩
 rintro⟨p,f,e⟩ ⟨K,L,r⟩;dsimp only at K L r ⊢
 obtain⟨W,C⟩ : ∃W,W=aK (gM ⟨l,⟨b,c,a⟩,m⟩):=⟨_,rfl⟩;unfold Ex;have M: ∀(v:Value)(u:iY)(t:World),x2 ⟨l,⟨b,c,a⟩,m⟩ u->ag d W (gM u) t->aX (λ_:iY=>v) (gM ⟨l,⟨b,c,a⟩,m⟩) gM (x2 ⟨l,⟨b,c,a⟩,m⟩) d (.returned v) t:=λv u t q s=>aX.cf u q rfl<|C▸s
 rw[<-C];refine (aE) (λN=>?_) λN=>cn ?_;obtain⟨⟨j,k⟩,O⟩ : ∃v,e[p]? = some v:=⟨e[p]'aa,bD _⟩;refine jd (e:=44) (sz:=2) (v:= .slice b a.length c) cW λZf Zg D Zh _ _ P=>?_;obtain⟨w,Q⟩:=P aa;have o:b=some ⟨w,0,none⟩:=by injection D with E R S;exact E.trans Q
 have F:a.length<=c:=by injection D with E R S;omega
 refine aH ?_;refine bE (q:=p) eR rfl rfl rfl o rfl aa<|cE (vs:=bG.enc ⟨j,k⟩) fF rfl rfl rfl (λT q U V X=>(show ag _ _ [_,_,own 44 c1.ax (.slice (some ⟨w,0,none⟩) a.length c) a.length<|c1.all e] T from o▸q).mH (E:=c1) (Has.tail<|Has.tail Has.head) O U V X) ?_;refine av ?_;intro Zi Zj Zk;refine be ?_;refine bl 31 rfl (λy=>?_) λy=>?_;have Y:=bg y
 refine aI ?_;refine bF (Eu · ⟨j,k⟩ h) ?_;refine (aE) (λz=>?_) λz=>?_;simp only[cq] at z
 refine aY ?_;exact bv (p+1,f,e) ⟨aa,by dsimp only;omega,r⟩ bL b5 λ_ n=>n.aF ah;simp only[cq] at z
 refine aH ?_;refine bF (Ev · ⟨j,k⟩ h)<|av ?_;intro A Z Za;refine Lk (E:=c1) (te:=44) (g:=w) (j:=f) (m:=a.length) (a:=nl ⟨j,k⟩ h) (xs:=c1.all e) eR rfl (by rw[<-o];rfl) rfl bw aa F (by rw[<-o];exact j5) ?_;rw[<-o];refine aY ?_
 (have _:=A;refine bv (p+1,f+1,e.set f<|nl ⟨j,k⟩ h) ⟨aa,by dsimp only;omega,by simpa using r⟩ bL (jF rfl rfl rfl rfl rfl rfl) λ_ n=>?_;rw[show 2=c1.ax from rfl,b1.kC c1 (nl ⟨j,k⟩ h)<|show f<e.length by omega] at n;exact n.aF ah)
 have Y:=bm y
 refine cn ?_;refine bF (Ev · ⟨j,k⟩ h)<|av ?_;intro A Z Za;refine Lk (E:=c1) (te:=44) (g:=w) (j:=f) (m:=a.length) (a:=nl ⟨j,k⟩ h) (xs:=c1.all e) eR rfl (by rw[<-o];rfl) rfl bw aa F (by rw[<-o];exact j5) ?_;rw[<-o];refine aY ?_
 (have _:=A;refine bv (p+1,f+1,e.set f<|nl ⟨j,k⟩ h) ⟨aa,by dsimp only;omega,by simpa using r⟩ bL (jF rfl rfl rfl rfl rfl rfl) λ_ n=>?_;rw[show 2=c1.ax from rfl,b1.kC c1 (nl ⟨j,k⟩ h)<|show f<e.length by omega] at n;exact n.aF ah)
 intro Zl Zb;refine M _ ⟨l,⟨b,c,e.take f⟩,m⟩ _ ⟨rfl,rfl,by show (((e.take f).length:Nat):Int)<=m;rw[dR];omega,s⟩ ?_;have Zc: (e.take f).length=f:=by rw[dR];omega
 simp only[gM,iY.aq,Ew,e7.val,e7.aD,Zc];exact (Zb.conv (c:=own 44 c1.ax (.slice b a.length c) a.length<|c1.all e) (c':=Mq.aD 44 c1 b c<|e.take f) l4 (by cases b <;> rfl) λn=>WU aa<|by show World.ownsRow _ 0 _ _ (.slice b e.length c) e.length _;rw[r];exact n).aF ah
abbrev fm :Prop:=(0<=u.row/\u.row<=4398046511104)/\0<=u.dL/\u.dL<=4398046511104
def WW(b:fm i)(a:fb):fm (nl i a):=by
 unfold nl;have f:eY a->0<=jv a/\jv a<=1099511627776:=λb=>by unfold jv;split <;> simp only[eY,eI] at b <;> omega
 split
 ·exact b
 ·rename_i d
  have e:dS i/\eY a/\jv a<=i.row:=⟨Classical.byContradiction λc=>d<|.inl c,Classical.byContradiction λc=>d<|.inr<|.inl c,aa⟩
  have g:=f e.2.1
  simp only[dS,eY,eI] at e
  focus (split;rotate_left;split;all_goals (exact⟨by dsimp only;omega,by dsimp only;omega⟩))
structure fo where
 code:Int
 has:Bool
 cut:Bool
 dir:List UInt8
 line:List UInt8
 id:Int
 pl:List bG
structure gd where
 blocks:List fo
 most:Int
 ids:Int
 dir:List UInt8
structure nm where
 kind:Int
 code:Int
 has:Bool
 text:List UInt8
def iZ(a:fo):bG:=a.pl.getLastD ⟨0,0⟩
def iq(a:fo)(b:Nat)(c:bG):fo:={ a with pl:=a.pl++List.replicate (b - a.pl.length) c }
def ir(a:gd)(c:Nat)(d:bG):gd:=
 let b:=a.blocks++[⟨0,false,false,a.dir,[],a.ids+1,List.replicate c d⟩]
 { a with ids:=a.ids+1,blocks:=if a.most<b.length then b.tail else b }
def setLast(a:List fo)(b:fo->fo):List fo:=match a.getLast? with
 | some c=>a.dropLast++[b c]
 | none=>a
def q8(b:gd)(c d:Nat):Bool:=match b.blocks.getLast? with
 | some a=>decide (c<=a.pl.length) && decide (a.pl.length<=d)
 | none=>false
def k0(a:gd)(b:fo->fo):gd:={ a with blocks:=setLast a.blocks b }
def nn(b:gd)(a:bG):bG:=match b.blocks.getLast? with
 | some c=>jR a<|iZ c
 | none=>a
def hS(a:gd)(b:nm)(c:bG):gd:=
 if ¬dS c then a else
 if b.kind=1 then ir a 1 (nn a c) else
 if b.kind=2 then (if q8 a 1 1=true then k0 a (iq · 2 (nn a c)) else ir a 2 (nn a c)) else
 if b.kind=3 then (if q8 a 1 2=true then k0 a (iq · 3 (nn a c)) else ir a 3 (nn a c)) else
 if b.kind=4 then (if q8 a 1 3=true then k0 a (λd=>{ iq d 4 (nn a c) with code:=b.code,has:=b.has }) else a) else
 if b.kind=5 then (if q8 a 1 3=true then k0 a (λd=>{ d with line:=b.text }) else a) else
 if b.kind=6 then (if q8 a 1 2=true then k0 { a with dir:=b.text } (λd=>{ d with dir:=b.text }) else { a with dir:=b.text }) else a
def ob(a:fo):bG:=a.pl.headD ⟨0,0⟩
def ll(b:fb):List fo->List fo
 | a::c::l=>if sj (ob a) b=true/\jh ⟨b.n,0⟩ (ob c)=false then ll b (c::l) else a::c::l
 | l=>l
def tU(a:fo):fo:={ a with cut:=a.cut || sj (ob a) D }
def x5(a:fo):fo:={ a with pl:=a.pl.map (nl · D) }
def tV(b:gd)(a:fb):gd:=
 if ¬eY a then b else
 { b with blocks:=(if a.kind=2 then (ll a b.blocks).map (tU a) else b.blocks).map (x5 a) }
def x6(a:List fo):List bG:=a.flatMap (·.pl)
structure gn where
 id:Int
 phase:Int
 start:bG
 input:bG
 output:bG
 done:bG
 stop:bG
 code:Int
 has:Bool
 cut:Bool
 dir:List UInt8
 line:List UInt8
def oc(a:fo)(b:bG):gn:=⟨a.id,a.pl.length,a.pl.getD 0 b,a.pl.getD 1 b,a.pl.getD 2 b,a.pl.getD 3 b,b,a.code,a.has,a.cut,a.dir,a.line⟩
def hQ :gn:=⟨0,0,⟨0,0⟩,u,u,u,u,0,false,false,[],[]⟩
def lm(a:bG):List fo->List gn
 | []=>[]
 | [e]=>[oc e a]
 | e::b::c=>oc e (ob b)::lm a (b::c)
def no(c:gd)(a:bG):List gn:=match c.blocks with
 | []=>[hQ a]
 | e::b=>hQ (ob e)::lm (jR a<|iZ<|(e::b).getLastD e) (e::b)
def lU(a:gd)(id:Int)(b:bG):Option gn:=(no a b).find? λc=>decide<|c.id=id
structure kn (e:fo) (ids:Int):Prop where
 pl:1<=e.pl.length/\e.pl.length<=4
 pos: ∀p∈e.pl,fm p
 id:1<=e.id/\e.id<=ids
 pX:e.dir.length<=256/\e.line.length<=256
structure ko (s:gd) (N:Int):Prop where
 most:1<=s.most/\s.most<=10000
 len: (s.blocks.length:Int)<=s.most
 ids:0<=s.ids/\s.ids<=N
 is: ∀e∈s.blocks,kn e s.ids
 sm:s.blocks.Pairwise λa b=>a.id<b.id
 dir:s.dir.length<=256
variable {t:fo}
def kn.mono{b:Int}(a:kn t f)(c:f<=b):kn t b:=⟨a.pl,a.pos,by have:=a.id;omega,a.pX⟩
variable {q:gd}
def ko.mono{b:Int}(a:ko q f)(c:f<=b):ko q b:=⟨a.most,a.len,by have:=a.ids;omega,a.is,a.sm,a.dir⟩
def A2(a:ko q f)(j:1<=m/\m<=4)(k:fm i):ko (ir q m i) (f+1):=by
 have l:=a.most;have r:=a.len;have s:=a.ids
 have n:kn ⟨0,false,false,q.dir,[],q.ids+1,List.replicate m i⟩ (q.ids+1):=⟨by simpa using j,λt o=>(k6 o).symm▸k,by dsimp only;omega,by simpa using a.dir⟩
 have d: ∀b∈q.blocks++[⟨0,false,false,q.dir,[],q.ids+1,List.replicate m i⟩],kn b (q.ids+1):=λb he=>by
  rcases dq.1 he with he | he
  exact (a.is b he).mono aa;rw[e0] at he;exact he▸n
 have e: (q.blocks++[(⟨0,false,false,q.dir,[],q.ids+1,List.replicate m i⟩ :fo)]).Pairwise (λc g=>c.id<g.id):=
  List.pairwise_append.2 ⟨a.sm,List.pairwise_singleton _ _,λc p g h=>by
   rw[e0] at h;subst h
   have:=(a.is c p).id
   dsimp only;omega⟩
 unfold ir;refine⟨l,?_,⟨by dsimp only;omega,by dsimp only;omega⟩,?_,?_,a.dir⟩;dsimp only;split
 rw[List.length_tail];rw[b3,kt] at *;omega
 omega
 dsimp only;intro b he;split at he
 exact d b<|List.mem_of_mem_tail he;exact d b he;dsimp only;split
 exact e.sublist<|List.tail_sublist _;exact e
variable {I:fo->fo}
def x7{N:Int}(a:ko q N)(hid: ∀b,(I b).id=b.id)(k: ∀b∈q.blocks,q.blocks.getLast?=some b->kn (I b) q.ids):ko (k0 q I) N:=by
 unfold k0 setLast;cases d:q.blocks.getLast? with
 | none=>exact⟨a.most,a.len,a.ids,a.is,a.sm,a.dir⟩
 | some b=>
  have g:q.blocks=q.blocks.dropLast++[b]:=by
   have h:q.blocks≠[]:=λl=>by rw[l] at d;cases d
   rw[yx h] at d
   cases d
   exact (List.dropLast_concat_getLast h).symm
  have f:=a.len
  have i:=a.is
  have e:=a.sm
  have m:b∈q.blocks:=by rw[g];simp
  rw[g] at f i e
  refine⟨a.most,by dsimp only;rw[b3,kt] at f ⊢;exact f,a.ids,λn c=>?_,?_,a.dir⟩;rcases dq.1 c with c | c
  exact i n<|dq.2<|.inl c;rw[e0] at c;exact c▸k b m d
  rw[List.pairwise_append] at e ⊢
  exact⟨e.1,List.pairwise_singleton _ _,λo p r j=>by
   rw[e0] at j;subst j
   rw[hid];exact e.2.2 o p b au⟩
def EC(b:kn t f):fm (iZ t):=by
 unfold iZ;cases a:t.pl.getLast? with
 | none=>rw[List.getLast?_eq_none_iff] at a;have:=b.pl;rw[a] at this;simp at this
 | some c=>rw[List.getLastD_eq_getLast?,a];exact b.pos c<|wt a
def ED{a:bG}(b:fm i)(c:fm a):fm (jR i a):=by unfold jR;split <;> assumption
def A3{p:bG}(a:dS p):fm p:=by simp only[dS,eI] at a;exact⟨aa,aa⟩
def WX(b:ko q f)(a:fm i):fm (nn q i):=by
 unfold nn;split
 rename_i c d;exact ED a<|EC<|b.is c<|wt d
 exact a
def EE{N:Int}(b:kn t N){n:Nat}(e:n<=4)(c:fm i):kn (iq t n i) N:=by
 have:=b.pl
 refine⟨by simp only[iq,b3,hy];omega,λd a=>?_,b.id,b.pX⟩;rcases dq.1 a with a | a
 exact b.pos d a;exact (k6 a).symm▸c
def WY(a:ko q f)(h:nm)(i:h.text.length<=256)(j:bG):ko (hS q h j) (f+1):=by
 have d:ko q (f+1):=a.mono aa
 unfold hS;split
 exact d;rename_i l;have e:fm (nn q j):=WX a<|A3<|Classical.byContradiction l
 split
 exact A2 a ⟨aW,aW⟩ e;split
 split
 exact x7 d (λ_=>rfl) λb c _=>EE (a.is b c) aW e;exact A2 a ⟨aW,aW⟩ e;split
 split
 exact x7 d (λ_=>rfl) λb c _=>EE (a.is b c) aW e;exact A2 a ⟨aW,aW⟩ e;split
 split
 exact x7 d (λ_=>rfl) (λb c _=>by
  have g:=EE (a.is b c) (n:=4) aW e
  exact⟨g.pl,g.pos,g.id,g.pX⟩)
 exact d;split
 split
 exact x7 d (λ_=>rfl) λb c _=>⟨(a.is b c).pl,(a.is b c).pos,(a.is b c).id,(a.is b c).pX.1,i⟩;exact d;split
 have k:ko { q with dir:=h.text } (f+1):=⟨a.most,a.len,d.ids,a.is,a.sm,i⟩
 split
 exact x7 k (λ_=>rfl) λb c _=>⟨(a.is b c).pl,(a.is b c).pos,(a.is b c).id,i,(a.is b c).pX.2⟩;exact k;exact d
def EF(c:fb): ∀b,(ll c b).Sublist b
 | []=>List.Sublist.refl _
 | [_]=>List.Sublist.refl _
 | a::d::b=>by
  unfold ll;split
  exact (EF c<|d::b).cons a;exact List.Sublist.refl _
def WZ{N:Int}(a:ko q N)(c:fb):ko (tV q c) N:=by
 unfold tV;split
 exact a;have h: ∀b,kn b q.ids->kn (tU c b) q.ids:=λb a=>⟨a.pl,a.pos,a.id,a.pX⟩
 have i: ∀b,kn b q.ids->kn (x5 c b) q.ids:=λb a=>⟨by simpa [x5] using a.pl,λo j=>by
  obtain⟨k,l,rfl⟩:=ei.1 j;exact WW (a.pos k l) c,a.id,a.pX⟩
 have d:=EF c q.blocks
 refine⟨a.most,?_,a.ids,λb m=>?_,?_,a.dir⟩;dsimp only;rw[c8];have:=d.length_le
 have:=a.len
 split
 rw[c8];omega
 omega
 obtain⟨f,e,rfl⟩:=ei.1 m;refine i f ?_;split at e
 obtain⟨g,n,rfl⟩:=ei.1 e;exact h g<|a.is g<|d.subset n;exact a.is f e;dsimp only;rw[List.pairwise_map];split
 rw[List.pairwise_map];exact a.sm.sublist d;exact a.sm
def EG(b:bG): ∀a,(lm b a).map (·.id)=a.map (·.id)
 | []=>rfl
 | [_]=>rfl
 | e::c::a=>by
  have:=EG b<|c::a
  simp only[lm,ku] at this ⊢
  rw[this];rfl
structure sn (b:gn):Prop where
 start:fm b.start
 input:fm b.input
 output:fm b.output
 done:fm b.done
 stop:fm b.stop
 pX:b.dir.length<=256/\b.line.length<=256
def A4(c: ∀a∈y,fm a)(d:fm i)(b:Nat):fm (y.getD b i):=by
 rw[fY];cases e:y[b]? with
 | none=>exact d
 | some a=>exact c a<|cR e
def Lq(a:kn t f):fm (ob t):=by
 unfold ob;cases b:t.pl with
 | nil=>have:=a.pl;rw[b] at this;simp at this
 | cons c d=>exact a.pos c (by rw[b];simp)
def Lr(a:kn t f)(b:fm i):sn (oc t i):=
 ⟨A4 a.pos b 0,A4 a.pos b 1,A4 a.pos b 2,A4 a.pos b 3,b,a.pX⟩
def Ls(g:fm i): ∀d:List fo,(∀e∈d,kn e f)-> ∀b∈lm i d,sn b
 | [],_,b,a=>by cases a
 | [e],c,b,a=>by
  rw[lm,e0] at a
  exact a▸Lr (c e au) g
 | e::h::d,c,b,a=>by
  rw[lm] at a
  rcases eJ.1 a with rfl | a
  exact Lr (c e au)<|Lq<|c h au;exact Ls g (h::d) (λj k=>c j<|sE _ k) b a
def W0(n:ko q f)(j:fm i): ∀b∈no q i,sn b:=by
 have o:fm ⟨0,0⟩:=⟨⟨aW,aW⟩,aW,aW⟩
 have k: ∀e,fm e->sn (hQ e):=λe c=>⟨o,c,c,c,c,by simp[hQ],by simp[hQ]⟩
 unfold no;intro b a;split at a
 rw[e0] at a;exact a▸k i j
 rename_i l d p;have g: ∀h∈l::d,kn h q.ids:=λh r=>n.is h<|p▸r
 rcases eJ.1 a with rfl | a
 exact k _<|Lq<|g l au;refine Ls (ED j<|EC<|g _ ?_) _ g b a;rw[List.getLastD_cons];rcases d with _ | ⟨s,d⟩
 simp
 exact sE _ (by rw[List.getLastD_eq_getLast?];cases m: (s::d).getLast? with
  | none=>simp at m
  | some t=>exact wt m)
def Lt{s:gd} : (no s u).length=s.blocks.length+1:=by
 unfold no;split
 rename_i a;rw[a];rfl
 rename_i b c a;have:=a_ List.length<|EG (jR u<|iZ<|(b::c).getLastD b)<|b::c
 rw[c8,c8] at this
 rw[a,dV,this]
structure bn where
 g:Nat
 code:Int
 has:Bool
 cut:Bool
 dir:List UInt8
 line:List UInt8
 id:Int
 cG:bG
 dY:bG
 fe:bG
 na:bG
 bV:Nat
abbrev mx(a:bn):List Value:=[ad a.code,.bool a.has,.bool a.cut,bU a.dir,bU a.line,.int .u64 a.id,ad a.cG.row,ad a.cG.dL,ad a.dY.row,ad a.dY.dL,ad a.fe.row,ad a.fe.dL,ad a.na.row,ad a.na.dL,ad (a.bV:Int)]
abbrev bn.aq(a:bn):Chunk:=aG a.g (mx a) 249
def bn.at_(a:bn)(b:Nat):bG:=match b with | 0=>a.cG | 1=>a.dY | 2=>a.fe | _=>a.na
def bn.set(a:bn)(c:Nat)(b:bG):bn:=match c with | 0=>{ a with cG:=b } | 1=>{ a with dY:=b } | 2=>{ a with fe:=b } | _=>{ a with na:=b }
def bn.pl(a:bn):List bG:=[a.cG,a.dY,a.fe,a.na].take a.bV
def bn.abs(a:bn):fo:=⟨a.code,a.has,a.cut,a.dir,a.line,a.id,a.pl⟩
def Lu(b:bn)(a:Nat)(c:bG)(d:a<4):dJ (mx b) (6+a*2) c.enc=mx (b.set a c):=by
 match a,d with
 | 0,_=>rfl
 | 1,_=>rfl
 | 2,_=>rfl
 | 3,_=>rfl
def EH(d:bn)(a:Nat)(e:a<4): ∀b u,(d.at_ a).enc[b]? = some u->(mx d)[6+a*2+b]? = some u:=by
 intro b u c;match b with
 | 0=>cases c;match a,e with
  | 0,_=>rfl
  | 1,_=>rfl
  | 2,_=>rfl
  | 3,_=>rfl
 | 1=>cases c;match a,e with
  | 0,_=>rfl
  | 1,_=>rfl
  | 2,_=>rfl
  | 3,_=>rfl
 | b+2=>cases c
def Lv(a:bn)(b:Nat)(c:bG): (a.set b c).g=a.g:=by unfold bn.set;split <;> rfl
def W1(a:bn)(b:Nat)(c:bG): (a.set b c).bV=a.bV:=by unfold bn.set;split <;> rfl
def np(a:bn)(b:a.bV<=4):a.pl.length=a.bV:=by simp[bn.pl];omega
def x8(a:bn)(c:a.bV<=4)(b:m<a.bV):a.pl[m]? = some (a.at_ m):=by
 unfold bn.pl;rw[iu,aB b];match m,(show m<4 by omega) with
 | 0,_=>rfl
 | 1,_=>rfl
 | 2,_=>rfl
 | 3,_=>rfl
def W2(a:bn)(b:1<=a.bV/\a.bV<=4):iZ a.abs=a.at_ (a.bV - 1):=by
 unfold iZ;rw[List.getLastD_eq_getLast?,List.getLast?_eq_getElem?];show (a.pl[a.pl.length - 1]?).getD _=_
 rw[np a b.2,x8 a b.2 aa];rfl
def x9(a:bn)(b:1<=a.bV/\a.bV<=4):ob a.abs=a.cG:=by
 unfold ob;rw[List.headD_eq_head?_getD,List.head?_eq_getElem?];show (a.pl[0]?).getD _=_
 rw[x8 a b.2 aa];rfl
def W3(a:bn)(b:bG)(c:a.bV<4): ({ a.set a.bV b with bV:=a.bV+1 }:bn).abs= { a.abs with pl:=a.pl++[b] }:=by
 obtain⟨d,e,f,g,h,i,id,j,k,l,m,bV⟩:=a;match bV,(show bV<4 from c) with
 | 0,_=>rfl
 | 1,_=>rfl
 | 2,_=>rfl
 | 3,_=>rfl
def W4(a:fo)(b:Nat)(c:bG)(d:a.pl.length<=b):iq a (b+1) c= { iq a b c with pl:=(iq a b c).pl++[c] }:=by
 unfold iq;rw[show b+1 - a.pl.length=(b - a.pl.length)+1 by omega,List.replicate_succ',ec]
def EI(e:fo)(a:Nat)(b:bG)(c:a<=e.pl.length):iq e a b=e:=by
 unfold iq;rw[show a - e.pl.length=0 by omega];simp
def ln:b1 Nat:=⟨λa=>[ptr a],1,λ_=>rfl,λ_=>aV.cons rfl aV.nil⟩
structure dp where
 g:Nat
 A:Option Addr
 c:Nat
 l:List bn
 most:Int
 ids:Int
 dir:List UInt8
abbrev tW(a:dp):List Value:=[.slice a.A a.l.length a.c,ad a.most,.int .u64 a.ids,bU a.dir]
abbrev dp.aq(a:dp):Chunk:=aG a.g (tW a) 224
abbrev fp(a:List bn):Chunk:=ip 243 ln.ax J a.length B<|ln.all<|a.map bn.g
abbrev fQ(a:List bn):Chunk:=aZ<|a.map bn.aq
abbrev du(a:dp):List Chunk:=[a.aq,fp a.A a.c a.l,fQ a.l]
def dp.abs(a:dp):gd:=⟨a.l.map bn.abs,a.most,a.ids,a.dir⟩
abbrev hT(b:List bn):Prop:= ∀a∈b,1<=a.bV/\a.bV<=4
structure gW (s:dp) (N:Int):Prop where
 wf:ko s.abs N
 bV:hT s.l
variable {v:dp}
def gW.len(a:gW v f): (v.l.length:Int)<=v.most/\1<=v.most/\v.most<=10000:=by
 have b:=a.wf.len
 have c:=a.wf.most
 simp only[dp.abs,c8] at b c
 omega
variable {h:List bn}
def pY{a:World}{b:Nat}(c: (fp (some ⟨E,b,none⟩) m h).pred a){k:Nat}{e:bn}(d:h[k]? = some e):a.cell? ((⟨E,b,none⟩ :Addr).add<|k*1)=some (ptr e.g):=by
 have:=WN (E:=ln) c au rfl (k:=k) (a:=e.g) (by rw[fw,d];rfl) 0 (ptr e.g) rfl
 rw[Addr.add_lit,Addr.add_lit,sJ] at this
 rw[Addr.add_lit];exact this
variable {o:bn}
def od{w:World}(a: (fQ h).pred w)(b:o∈h):o.aq.pred w:=a o.aq<|ei.2 ⟨o,b,rfl⟩
def x_(a:Int):ay 211 [.pointer none,ad C,ad a] d (Pure (.bool false) d):=by
 refine ba func211 ntmps211 ?_;refine wQ ?_;exact λc b=>⟨rfl,b.ext⟩
def EJ :ay 144 [fc u] d (Pure (.bool<|decide<|dS u) d):=by
 refine ba func144 ntmps144 ?_;refine ap ?_;intro j k l;refine a6 ?_;refine bl 6 rfl (λb=>?_) λb=>?_;have g:=bg b
 refine aY ?_;refine bl 11 rfl (λc=>?_) λc=>?_;have h:=bg c
 refine aY ?_;refine bl 16 rfl (λe=>?_) λe=>?_;have i:=bg e
 refine b6 ?_;exact λf a=>⟨by rw[Ending.returned.injEq,Value.bool.injEq];symm;simp only[eI,dS] at *;(rw[iK];omega),a.ext⟩
 have i:=bm e
 refine a6 ?_;exact λf a=>⟨by rw[Ending.returned.injEq,Value.bool.injEq];symm;simp only[eI,dS] at *;(rw[fZ];omega),a.ext⟩
 have h:=bm c
 refine cZ ?_;exact λf a=>⟨by rw[Ending.returned.injEq,Value.bool.injEq];symm;simp only[eI,dS] at *;(rw[fZ];omega),a.ext⟩
 have g:=bm b
 refine fT ?_;exact λf a=>⟨by rw[Ending.returned.injEq,Value.bool.injEq];symm;simp only[eI,dS] at *;(rw[fZ];omega),a.ext⟩
def W5(k:1<=C/\C<=10000):ay 65 [ad C] d
 (aX (λa:Nat=> .tuple #[ptr a,z0]) [] (λa=>du ⟨a,none,0,[],C,0,[]⟩) (λ_=>True) d):=by
 refine ba func65 ntmps65 ?_;refine b6 ?_;refine bl 6 rfl (λb=>?_) λb=>?_;have g:=bg b
 refine dO ?_;intro f e
 (exfalso;omega)
 have g:=bm b
 refine (aE) (λh=>a6 ?_) λh=>aU ?_;intro f e
 (exfalso;omega)
 intro i l m;refine aH ?_;exact λf e=>aX.cf i bh rfl<|(((e.pb (c:=fQ []) (λc j=>by simp at j) rfl).pb (c:=fp none 0 []) (WL _ _ _) rfl)).aF ah
def Lw(a:bn)(e:a.aq.pred d)(h:1<=a.bV/\a.bV<=4):ay 139 [ptr a.g] d (Pure (fc<|iZ a.abs) d):=by
 rw[W2 a h];refine ba func139 ntmps139 ?_;refine ap ?_;intro n o p;refine ap ?_;refine bN [0,1,2,3,4,5,6,7,8,9] 1 [[(10,true,[])]] ?_;refine a7 ?_;refine aO rfl (λf b=>(bb bY rfl rfl (λi c=>by subst c;exact b.cc e (by (simp;done)) rfl) aJ)) ?_;refine ap ?_;refine aO rfl (λf b=>(d9 (q:=a.bV - 1) underlying247 oE rfl rfl rfl aa aa aJ)) ?_;refine aO rfl (λf b=>(cE (vs:=(a.at_<|a.bV - 1).enc) fF rfl rfl rfl (λi c j k l=>by subst c;rw[Addr.add_lit];exact b.cc e au<|EH a (a.bV - 1) aa j k l) aJ)) ?_;refine a6 ?_;exact λq m=>⟨rfl,m.ext⟩
def ya(a:bn)(f:a.aq.pred d)(h i:Int):ay 211 [ptr a.g,ad h,ad i] d (Pure (.bool<|decide<|h<=(a.bV:Int)/\(a.bV:Int)<=i) d):=by
 refine ba func211 ntmps211 ?_;refine ft ?_;refine bb bY rfl rfl (λj b=>b.cc f (by (simp;done)) rfl) ?_;refine aH ?_;refine bl 17 rfl (λc=>?_) λc=>?_;have k:=bg c
 refine aU ?_;refine bb bY rfl rfl (λj b=>b.cc f (by (simp;done)) rfl) ?_;refine be ?_;exact λl e=>⟨by rw[Ending.returned.injEq,Value.bool.injEq];symm;(rw[iK];omega),e.ext⟩
 have k:=bm c
 refine b6 ?_;exact λl e=>⟨by rw[Ending.returned.injEq,Value.bool.injEq];symm;(rw[fZ];omega),e.ext⟩
def A5(a:bn)(c:a.aq.pred d)(e:a.bV<=4):ay 141 [ptr a.g] d (Pure (.slice (some ⟨a.g,6,none⟩) a.bV 4) d):=by
 refine ba func141 ntmps141 ?_;refine aH ?_;refine bN [0,1,2,3,4,5,6,7,8] 0 [[]] ?_;refine aH ?_;refine aO rfl (λf b=>(bb bY rfl rfl (λj h=>by subst h;exact b.cc c (by (simp;done)) rfl) aJ)) ?_;refine aO rfl (λf b=>(Lo (sz:=2) a.bV underlying247 sizeOf44 rfl rfl (.inl ⟨_,_,rfl,rfl,rfl⟩) e aJ))<|aH ?_;exact λk i=>⟨rfl,i.ext⟩
def W6(a:dp)(b:a.aq.pred d):ay 136 [ptr a.g] d (Pure (ad (a.l.length:Int)) d):=by
 refine ba func136 ntmps136 ?_;refine gR ?_;refine bb oD rfl rfl (λf c=>c.cc b (by (simp;done)) rfl) ?_;refine aH ?_;exact λh e=>⟨rfl,e.ext⟩
def EK(a:dp)(i:a.aq.pred d)(j: (fp a.A a.c a.l).pred d):ay 138 [ptr a.g] d (Pure (match a.l.getLast? with | some e=>ptr e.g | none=> .pointer none) d):=by
 have o:=A0 j
 have s:=o.2.1
 simp only[maxLen] at s
 refine ba func138 ntmps138 ?_;rcases hV a.l.length with ar | ar
 have t:a.l=[]:=jX ar
 refine bP ?_;refine bb oD rfl rfl (λu k=>k.cc i (by (simp;done)) rfl) ?_;refine (aE) (λf=>aY ?_) λf=>?_;exact λv m=>⟨by rw[t];rfl,m.ext⟩
 exact absurd (show (a.l.length:Int)=0 by omega) f;obtain⟨w,x,p⟩:=o.2.2 ar;obtain⟨e,q⟩ : ∃e,a.l[a.l.length - 1]? = some e:=⟨_,bD aa⟩;rw[p] at j
 rw[List.getLast?_eq_getElem?,q];refine bP ?_;refine bb oD rfl rfl (λu k=>k.cc i (by (simp;done)) rfl) ?_;refine (aE) (λf=>?_) λf=>ap ?_;exact absurd f aa;refine bN [0,1,2,3,4,5,6,7,8,9,10,11,12] 0 [[]] ?_;refine ap ?_;refine aO rfl (λn b=>(bb oD rfl rfl (λr h=>by subst h;exact b.cc i (by (simp;done)) rfl) aJ)) ?_;refine ap ?_;refine aO rfl (λn b=>(bb oD rfl rfl (λr h=>by subst h;exact b.cc i (by (simp;done)) rfl) aJ)) ?_;refine aA ?_;refine aO rfl (λn b=>(bE (q:=a.l.length - 1) mK rfl rfl rfl p aa aa aJ)) ?_;refine aO rfl (λn b=>(bb ph rfl rfl (λr h=>by subst h;exact b.ch (pY j q) au) aJ)) ?_;refine aH ?_;exact λv m=>⟨rfl,m.ext⟩
def W7(l:List Nat)(a:Nat):ln.all (l++[a])=ln.all l++[ptr a]:=b1.iP ln l a
def Lx(a:bn)(o:bc d [a.aq])(n:Nat)(x:n<=4)(b:a.bV<=4)(p:bG):ay 212 [ptr a.g,ad (n:Int),fc p] d
 (aX (λ_:bn=> .tuple #[]) [a.aq] (λz=>[z.aq]) (λz=>z.g=a.g/\z.abs=iq a.abs n p/\z.bV<=4/\(z.bV=n\/z.bV=a.bV/\n<a.bV)) d):=by
 refine bX func212 ntmps212 o ?_;refine ap ?_;intro i y A;refine ap ?_;refine cd (ι:=bn) (λz=>[(0,ptr z.g),(1,ad (n:Int)),(5,ptr i)]) (λz=>ag d (aK [a.aq]) [aG i p.enc 44,z.aq]) (λz=>z.g=a.g/\z.abs=iq a.abs z.bV p/\a.bV<=z.bV/\z.bV<=4/\(z.bV<=n\/z.bV=a.bV)) (λz=>4 - z.bV) ?_ ?_;exact λB q=>⟨a,⟨rfl,(EI _ _ _<|by rw[show a.abs.pl=a.pl from rfl,np a b];exact cC _).symm,cC _,b,.inr rfl⟩,(ed rfl rfl rfl),q⟩
 rintro z ⟨j,f,r,s,t⟩;refine (aE) (λu=>?_) λu=>aI ?_;have k:z.bV<4:=by omega
 have l: ({ z.set z.bV p with bV:=z.bV+1 }:bn).abs=iq a.abs (z.bV+1) p:=by
  rw[W3 z p k,W4 _ _ _<|by rw[show a.abs.pl=a.pl from rfl,np a b];exact r,<-f];rfl
 refine a7 ?_;refine bN [0,1,2,3,4,5,6,7,8] 1 [[(9,true,[])]] ?_;refine aY ?_;refine aO rfl (λC D=>(d9 (q:=z.bV) underlying247 oE rfl rfl rfl rfl aa aJ))<|aA ?_;refine fR (g:=z.g) (o:=6+z.bV*2) (vs:=p.enc) (xs:=mx z) (te:=249) fF rfl rfl (by rw[Lu _ _ _ k];exact fs) rfl (y4 rfl rfl) (by show 6+z.bV*2+2<=15;omega) ?_;refine aA ?_;obtain⟨c,e⟩ : ∃c,c=z.set z.bV p:=⟨_,rfl⟩;have m:c.g=z.g:=by rw[e];exact Lv _ _ _
 have v:c.bV=z.bV:=by rw[e];exact W1 _ _ _
 rw[<-e] at l
 rw[<-e,<-m];refine cn ?_;refine bv ({ c with bV:=z.bV+1 }:bn) ⟨m.trans j,l,by dsimp only;omega,by dsimp only;omega,.inl bL⟩ bL (ed rfl rfl rfl) λ_ h=>?_;rw[v] at h
 exact h.aF ah;intro E w;refine eV z ⟨j,?_,s,aa⟩ w;rcases t with h | h
 rw[f,show z.bV=n by omega];rw[f,h,EI _ n _<|by rw[show a.abs.pl=a.pl from rfl,np a b];omega,EI _ _ _<|by rw[show a.abs.pl=a.pl from rfl,np a b];exact cC _]
def W8(A:Option Addr)(c:Nat)(l:List bn)(z:bn):ip 243 ln.ax A (l.length+1) c (ln.all (l.map bn.g)++[ptr z.g])=fp A c (l++[z]):=by
 show _=ip 243 ln.ax A (l++[z]).length c (ln.all<|(l++[z]).map bn.g)
 rw[b3,gF];exact a_ _ (W7 _ _).symm
def Ly{A:Option Addr}{c:Nat}{l:List bn}{w:World}(a:1<=l.length)(b: (fp A c l).pred w): (fp (A.map (·.add (1*1))) (c - 1) l.tail).pred w:=by
 have d:=WO a b
 cases l with
 | nil=>simp at a
 | cons e l=>exact d
def ag.Lz{w:World}{l:List bn}{z:bn}(a:ag k j (z.aq::fQ l::r) w):ag k j (fQ (l++[z])::r) w:=by
 have b:ag k j (aZ [z.aq]::fQ l::r) w:=a.close (l:=[z.aq]) ah
 show ag k j (aZ ((l++[z]).map bn.aq)::r) w
 rw[gF];exact (b.perm<|List.Perm.swap _ _ _).Cq
def ag.W9{w:World}{l:List bn}(a:ag k j (fQ l::r) w):ag k j (fQ l.tail::r) w:=by
 cases l with
 | nil=>exact a
 | cons b l=>exact a.O1 (r:=[b.aq])<|List.Perm.refl _
abbrev EL(g:Nat)(dir:List UInt8)(id:Int):bn:=⟨g,0,false,false,dir,[],id,⟨0,0⟩,⟨0,0⟩,⟨0,0⟩,⟨0,0⟩,0⟩
def LA{l:List bn}{z:bn}(a:hT l)(b:1<=z.bV/\z.bV<=4):hT (l++[z]):=λc he=>by
 rcases dq.1 he with he | he
 exact a c he;rw[e0] at he;exact he▸b
section
variable {g:Nat}{A eL:Option Addr}{c c9:Nat}{l:List bn}{most ids N:Int}{dir:List UInt8}{p:bG}{z:bn}
def LB(a:z.abs=⟨0,false,false,dir,[],ids+1,List.replicate n p⟩):ir (dp.abs ⟨g,A,c,l,most,ids,dir⟩) n p=⟨if most<(l.length:Int)+1 then (l++[z]).tail.map bn.abs else (l++[z]).map bn.abs,most,ids+1,dir⟩:=by
 unfold ir dp.abs;dsimp only;rw[<-a,b3,c8,kt,List.map_tail,gF];rfl
def W_(a:ko (ir (dp.abs ⟨g,A,c,l,most,ids,dir⟩) n p) (N+1))(d:hT (l++[z]))(e:z.abs=⟨0,false,false,dir,[],ids+1,List.replicate n p⟩)(f: ¬most<(l.length:Int)+1):
 (⟨g,eL,c9,l++[z],most,ids+1,dir⟩ :dp).g=g/\gW ⟨g,eL,c9,l++[z],most,ids+1,dir⟩ (N+1)/\(⟨g,eL,c9,l++[z],most,ids+1,dir⟩ :dp).abs=ir (dp.abs ⟨g,A,c,l,most,ids,dir⟩) n p:=by
 have b:=LB (g:=g) (A:=A) (c:=c) (l:=l) (most:=most) e
 rw[ai f] at b
 rw[b] at a ⊢
 exact⟨rfl,⟨a,d⟩,rfl⟩
def Xa(a:ko (ir (dp.abs ⟨g,A,c,l,most,ids,dir⟩) n p) (N+1))(d:hT (l++[z]))(e:z.abs=⟨0,false,false,dir,[],ids+1,List.replicate n p⟩)(f:most<(l.length:Int)+1):
 (⟨g,eL,c9,(l++[z]).tail,most,ids+1,dir⟩ :dp).g=g/\gW ⟨g,eL,c9,(l++[z]).tail,most,ids+1,dir⟩ (N+1)/\(⟨g,eL,c9,(l++[z]).tail,most,ids+1,dir⟩ :dp).abs=ir (dp.abs ⟨g,A,c,l,most,ids,dir⟩) n p:=by
 have b:=LB (g:=g) (A:=A) (c:=c) (l:=l) (most:=most) e
 rw[aB f] at b
 rw[b] at a ⊢
 exact⟨rfl,⟨a,λh i=>d h<|List.mem_of_mem_tail i⟩,rfl⟩
def Xb{w:World}(a:ag k j [z.aq,fQ l,aG g [.slice eL (l.length+1) c9,ad most,.int .u64 ids,bU dir] 224,fp eL c9<|l++[z]] w):ag k j (du ⟨g,eL,c9,l++[z],most,ids,dir⟩) w:=by
 have b: (l++[z]).length=l.length+1:=by simp
 simp only[du,dp.aq,tW,b];exact a.Lz.aF ah
def Xc{w:World}(a:ag k j [z.aq,fQ l,aG g [.slice eL (l.length+1 - 1) c9,ad most,.int .u64 ids,bU dir] 224,fp eL c9 (l++[z]).tail] w):ag k j (du ⟨g,eL,c9,(l++[z]).tail,most,ids,dir⟩) w:=by
 have b: (l++[z]).tail.length=l.length+1 - 1:=by simp
 simp only[du,dp.aq,tW,b];exact a.Lz.W9.aF ah
end
def Xd(a:dp)(s:bc d (du a)){N:Int}(e:gW a N)(G:N<=1000000000000000)(n:Nat)(m:1<=n/\n<=4)(p:bG)(t:fm p):ay 210 [ptr a.g,ad (n:Int),fc p] d
 (aX (λ_:dp=> .tuple #[]) (du a) du (λz=>z.g=a.g/\gW z (N+1)/\z.abs=ir a.abs n p) d):=by
 have u:=e.len
 have v:0<=a.ids/\a.ids<=N:=e.wf.ids
 have o:=A2 e.wf m t
 have h:=e.bV
 obtain⟨g,A,c,l,most,ids,dir⟩:=a;dsimp only at u v h
 refine calls (n:=57) func210 rfl ntmps210 rfl ?_;refine dh (H':=ag d (aK<|du ⟨g,A,c,l,most,ids,dir⟩) [aG g [.slice A l.length c,ad most,.int .u64 ids,bU dir] 224,fp A c l,fQ l]) (ap ?_) (Sub.refl _) s.start;intro H I J;refine aY ?_;refine jB (r:=ids+1) rfl rfl rfl (by simp[IntKind.wrap,IntKind.bits,IntKind.signed];omega) ?_;refine aH ?_;refine bN [0,1,2,3,4,5,6,7,8,9] 1 [[(10,false,[11])]] ?_;refine aY ?_;refine aO rfl (λw x=>(kB (out:=[z0,.bool false,.bool false,bU dir,.string<|bs []]) N4 rfl rfl rfl aJ)) ?_;refine aO rfl (λw x=>(kB (out:=mx<|EL 0 dir<|ids+1) N6 rfl rfl rfl aJ))<|ap ?_;intro f K L;refine cv (λ_=>True) (λ_ b=> .inr<|b.rem bH.head) (λ_ b=>bh)<|a6 ?_;refine bK (l0:=[(EL f dir<|ids+1).aq]) ah (λy B=>Lx y (EL f dir<|ids+1) (B.cb ah) n m.2 (b4 _) p) λz C=>?_;obtain⟨q,r,M,O⟩:=C;dsimp only at q
 refine bP ?_;intro P Q R;refine WT (m:=l.length) (A:=A) (c:=c) (vs:=[ptr f]) (xs:=ln.all<|l.map bn.g) mK rfl rfl rfl bw rfl (aV.cons rfl aV.nil) (by simp only[maxLen];omega) aa (λ_ _=>j5) λeL c9=>?_;refine Ez (c:=ip 243 ln.ax eL (l.length+1) c9<|ln.all (l.map bn.g)++[ptr f]) (c':=fp eL c9<|l++[z]) j5 (by cases eL <;> rfl) (λd b=>by rw[<-W8,q];exact b) ?_;refine WR (m:=(l++[z]).length) (A:=eL) (c:=c9) j4 λD=>?_;rw[b3,kt] at D
 refine aH ?_;refine bN [0,1,2,3,4,5,6,7,8,9] 0 [[]] ?_;refine (aE) (λE=>aH ?_) λE=>aA ?_;refine gp 1 (l.length+1) mK rfl rfl (.inl ⟨_,_,rfl,rfl,rfl⟩) (.inr ⟨rfl,rfl⟩) aa aa ?_;rw[ai aa];refine Ez (c:=fp eL c9<|l++[z]) (c':=fp (eL.map (·.add (1*1))) (c9 - 1) (l++[z]).tail) j5 (Ll _ _ _ _ _ _ _ _ _ _) (λd b=>Ly au b)<|aI ?_;intro F i;have j:z.abs=⟨0,false,false,dir,[],ids+1,List.replicate n p⟩:=by rw[r];rfl
 have k:hT (l++[z]):=LA h aa
 exact aX.cf ⟨g,eL.map (·.add (1*1)),c9 - 1,(l++[z]).tail,most,ids+1,dir⟩ (Xa o k j aa) rfl<|Xc<|i.aF ah;intro F i;have j:z.abs=⟨0,false,false,dir,[],ids+1,List.replicate n p⟩:=by rw[r];rfl
 have k:hT (l++[z]):=LA h aa
 exact aX.cf ⟨g,eL,c9,l++[z],most,ids+1,dir⟩ (W_ o k j aa) rfl<|Xb<|i.aF ah
variable {F:bn}
def Xe(a:h[m]? = some o)(b:F.g=o.g): (h.set m F).map bn.g=h.map bn.g:=by
 rw[p6,b];apply jY
 intro d;rw[nB];split
 rename_i c;subst c;rw[aB (by rw[c8];exact (cH.1 a).1),fw,a];rfl
 rfl
def Xf{l:List bn}(a:l[E]? = some o)(b:F.g=o.g):fp w m (l.set E F)=fp w m l:=by
 show ip _ _ _ (l.set E F).length _ (ln.all<|(l.set E F).map bn.g)=_
 rw[Xe a b,gx]
def ag.EM{a w:World}{k:Nat}{z:bn}(c:ag a j (z.aq::aZ ((h.map bn.aq).eraseIdx k)::r) w)(d:h[k]? = some o):ag a j (fQ (h.set k z)::r) w:=by
 have b:=c.Lm (k:=k) (by rw[c8];exact (cH.1 d).1)
 rw[<-p6] at b
 exact b
def EN(a:h.getLast?=some o):h[h.length - 1]? = some o/\1<=h.length:=by
 refine⟨by rw[<-List.getLast?_eq_getElem?];exact a,?_⟩;cases h with
 | nil=>cases a
 | cons b h=>simp
def Xg{f:fo->fo}(a:h.getLast?=some o)(b:f o.abs=F.abs): (h.set (h.length - 1) F).map bn.abs=setLast (h.map bn.abs) f:=by
 have c: (h.map bn.abs).getLast?=some o.abs:=by rw[List.getLast?_map,a];rfl
 have d:=EN a
 unfold setLast;rw[c];dsimp only;rw[b,p6,sH,aB<|by rw[c8];omega,List.dropLast_eq_take,c8,p5<|by rw[c8];omega]
structure k1 (s:dp) (N:Int) (x:nm) (p:bG) (z:dp):Prop where
 g:z.g=s.g
 ok:gW z (N+1)
 abs:z.abs=hS s.abs x p
variable {K:nm}
def k1.of(b:gW v f)(c:K.text.length<=256){z:dp}(d:z.g=v.g)(e:hT z.l)(a:z.abs=hS v.abs K i):k1 v f K i z:=⟨d,⟨a▸WY b.wf K c i,e⟩,a⟩
def Xh(a:hT h)(b:1<=o.bV/\o.bV<=4):hT (h.set m o):=λc d=>by
 rcases sF d with ab | ab
 exact a c ab;exact ab▸b
def Xi(g:v.l.getLast?=some o)(h:1<=o.bV/\o.bV<=4)(a:nm)(j:dS i):hS v.abs a i=
 if a.kind=1 then ir v.abs 1 (jR i<|iZ o.abs) else
 if a.kind=2 then (if 1<=(o.bV:Int)/\(o.bV:Int)<=1 then k0 v.abs (iq · 2 (jR i<|iZ o.abs)) else ir v.abs 2 (jR i<|iZ o.abs)) else
 if a.kind=3 then (if 1<=(o.bV:Int)/\(o.bV:Int)<=2 then k0 v.abs (iq · 3 (jR i<|iZ o.abs)) else ir v.abs 3 (jR i<|iZ o.abs)) else
 if a.kind=4 then (if 1<=(o.bV:Int)/\(o.bV:Int)<=3 then k0 v.abs (λb=>{ iq b 4 (jR i<|iZ o.abs) with code:=a.code,has:=a.has }) else v.abs) else
 if a.kind=5 then (if 1<=(o.bV:Int)/\(o.bV:Int)<=3 then k0 v.abs (λb=>{ b with line:=a.text }) else v.abs) else
 if a.kind=6 then (if 1<=(o.bV:Int)/\(o.bV:Int)<=2 then k0 { v.abs with dir:=a.text } (λb=>{ b with dir:=a.text }) else { v.abs with dir:=a.text }) else v.abs:=by
 have f:v.abs.blocks.getLast?=some o.abs:=by show (v.l.map bn.abs).getLast?=_;rw[List.getLast?_map,g];rfl
 have k:nn v.abs i=jR i (iZ o.abs):=by unfold nn;rw[f]
 have m: ∀(c:gd)(d e:Nat),c.blocks=v.abs.blocks->(q8 c d e=true)=((d:Int)<=(o.bV:Int)/\(o.bV:Int)<=(e:Int)):=λc d e n=>by
  unfold q8;rw[n,f];have p:o.abs.pl.length=o.bV:=np o h.2
  dsimp only;rw[p,dK,eQ,eQ];exact propext ⟨λq=>⟨aa,aa⟩,λq=>⟨aa,aa⟩⟩
 unfold hS;rw[ai (Classical.not_not.2 j),k];simp only[m _ _ _ rfl];rfl
def Xj(f:v.l.getLast?=none)(a:nm){p:bG}(g:dS p):hS v.abs a p=
 if a.kind=1 then ir v.abs 1 p else
 if a.kind=2 then ir v.abs 2 p else
 if a.kind=3 then ir v.abs 3 p else
 if a.kind=6 then { v.abs with dir:=a.text } else v.abs:=by
 have c:v.abs.blocks.getLast?=none:=by show (v.l.map bn.abs).getLast?=_;rw[List.getLast?_map,f];rfl
 have h:nn v.abs p=p:=by unfold nn;rw[c]
 have i: ∀(b:gd)(d e:Nat),b.blocks=v.abs.blocks->q8 b d e=false:=λb d e j=>by unfold q8;rw[j,c]
 unfold hS;rw[ai (Classical.not_not.2 g),h];simp only[i _ _ _ rfl,Bool.false_eq_true,if_false];split
 rfl
 split
 rfl
 split
 rfl
 split
 rename_i k;rw[ai aa]
 split
 rename_i k;rw[ai aa]
 rfl
def EO(a:bn)(h:bc d [a.aq])(f:Int)(c:Nat)(i:f=(c:Int))(j:c<=4)(k:a.bV<=4)(e:bG):ay 212 [ptr a.g,ad f,fc e] d
 (aX (λ_:bn=> .tuple #[]) [a.aq] (λb=>[b.aq]) (λb=>b.g=a.g/\b.abs=iq a.abs c e/\b.bV<=4/\(b.bV=c\/b.bV=a.bV/\c<a.bV)) d):=by subst i;exact Lx d a h c j k e
def v7(a:dp)(i:bc d (du a))(j:gW a f)(k:f<=1000000000000000)(h:Int)(b:Nat)(l:h=(b:Int))(m:1<=b/\b<=4)(c:bG)(n:fm c):ay 210 [ptr a.g,ad h,fc c] d
 (aX (λ_:dp=> .tuple #[]) (du a) du (λe=>e.g=a.g/\gW e (f+1)/\e.abs=ir a.abs b c) d):=by subst l;exact Xd d a i j k b m c n
abbrev EP(a:nm):Value:= .agg [ad a.kind,ad a.code,.bool a.has,bU a.text].toArray
def A6(a:dp)(b:Int)(c:nm)(d:bG)(e:World):Ending->World->Prop:=aX (λ_:dp=> .tuple #[]) (du a) du (k1 a b c d) e
def Xk(a:dp)(B:bc d (du a))(e:gW a f)(s:f<=1000000000000000)(b:nm)(k:b.text.length<=256)(p:bG)(w:a.l.getLast?=none):ay 130 [ptr a.g,EP b,fc p] d (A6 a f b p d):=by
 have m:=e.bV
 refine bX func130 ntmps130 B ?_;refine ap ?_;intro H I J;refine av ?_;intro K L M;refine bP ?_;refine bF (EJ · p)<|aI ?_;refine cD rfl (λn=>?_) λn=>?_;have q: ¬dS p:=λh=>by rw[bI h] at n;exact absurd n aW
 refine ap ?_;exact bT a<|k1.of e k rfl m (by unfold hS;rw[aB q]);have q:dS p:=Classical.byContradiction λh=>by rw[bJ h] at n;exact absurd n aW
 have t:=A3 q
 have r:=Xj w b q
 have C:b.kind=1->ir a.abs 1 p=hS a.abs b p:=λh=>by rw[r,aB h]
 have x:b.kind=2\/b.kind=3->ir a.abs b.kind.toNat p=hS a.abs b p:=λh=>by
  rcases h with h | h <;> rw[r,h] <;> rfl
 have D:b.kind=6->({ a with dir:=b.text }:dp).abs=hS a.abs b p:=λh=>by rw[r,h];rfl
 have u: ¬b.kind=1/\ ¬b.kind=2/\ ¬b.kind=3/\ ¬b.kind=6->a.abs=hS a.abs b p:=λh=>by rw[r,ai h.1,ai h.2.1,ai h.2.2.1,ai h.2.2.2]
 refine aI ?_;refine bd (λj i=>(by have h:=EK j a (i.has cW)<|i.has hL;rw[w] at h;exact h)) ?_;refine (aE) (λy=>ap ?_) λy=>?_;refine bK (l0:=du a) ah (hargs:=rfl) (λj i=>v7 j a (i.cb ah) e s _ 1 rfl aa p t) λo c=>ap ?_;exact bT o ⟨c.1,c.2.1,c.2.2.trans<|C y⟩;refine (aE) (λv=>?_) λv=>?_;have z:=v
 refine aA ?_;refine e_ rfl ((bI z))<|b6 ?_;refine bF (x_ · _ _) ?_;refine aU ?_;refine bK (l0:=du a) ah (hargs:=rfl) (λj i=>v7 j a (i.cb ah) e s _ b.kind.toNat aa aa p t) λo c=>ap ?_;exact bT o ⟨c.1,c.2.1,c.2.2.trans<|x aa⟩;have z:=v
 refine (aE) (λE=>b6 ?_) λE=>?_;refine bF (x_ · _ _) ?_;refine aU ?_;refine bK (l0:=du a) ah (hargs:=rfl) (λj i=>v7 j a (i.cb ah) e s _ b.kind.toNat aa aa p t) λo c=>ap ?_;exact bT o ⟨c.1,c.2.1,c.2.2.trans<|x aa⟩;refine (aE) (λF=>ap ?_) λF=>?_;refine bF (x_ · _ _) ?_;refine aH ?_;exact bT a<|k1.of e k rfl m<|u aa;refine (aE) (λG=>ap ?_) λG=>?_;refine bF (x_ · _ _) ?_;refine aH ?_;exact bT a<|k1.of e k rfl m<|u aa;refine (aE) (λA=>cn ?_) λA=>ap ?_;refine bF (x_ · _ _) ?_;refine aH ?_;exact bT { a with dir:=b.text } (k1.of e k rfl m<|D A);exact bT a<|k1.of e k rfl m<|u aa
