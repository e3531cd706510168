/- part 42 of the proof -/
import Derived.Test.YtnfmgboendlmaaaGreatDoorQ41
set_option linter.all false
namespace Go.Proofs.YtnfmgboendlmaaaGreatDoor.Mq
open RowKit Tryz
variable {P:Program}{n d:Nat}{ops:Array Oper}{Q:cN}{rest:List Oper}{l:Fr}{ty:TypeId}{pos:String}{bf:Array Edge}{S:a1}
variable {U:Array Value}{M s:Int}{J K q:List Chunk}{k:List Int}{v:List Nat}{p:List UInt8}{Z:List Value}{C:List aL}{D:List bq}{F g:Nat}{i:Nat->Prop}{h:Option Addr}{X:Type}{W:UInt8}{E I:World}{o:aL}{u:d4}{B:dH}(a:World)(w:dH)(A:aL)(j:Nat)(L:dH)(Y:Option Addr)(G:Nat)(N:Loop)(V:d4)(O:Option Addr × Nat)(R:List Int)
def M1:Code:=(Code.region 3 #[Oper.mk (some 4) (Op.assign<|Operand.tmp 7) 21 "utf.go:153" #[] none] false)
def M2:Code:=(Code.block 1<|Code.region 4 #[Oper.mk (some 8) (Op.load 211<|Operand.tmp 3) 211 "utf.go:154" #[] none,Oper.mk (some 9) (Op.move<|Operand.tmp 4) 21 "utf.go:154" #[] none,Oper.mk (some 10) (Op.buildSlice 211 1 #[(0,Operand.tmp 9)]) 211 "utf.go:154" #[Edge.mk 1 Ground.data] none,Oper.mk (some 11) (Op.call<|Call.mk (Callee.builtin Builtin.append) #[Operand.tmp 8,Operand.tmp 10] #[211,211]) 211 "utf.go:154" #[Edge.mk 0 Ground.data,Edge.mk 2 Ground.data] none,Oper.mk none (Op.store 211 (Operand.tmp 3)<|Operand.tmp 11) 0 "utf.go:154" #[Edge.mk 3 Ground.data,Edge.mk 3 Ground.chain,Edge.mk 0 Ground.phase,Edge.mk 1 Ground.phase,Edge.mk 2 Ground.phase,Edge.mk 3 Ground.phase] none] false)
abbrev jS(fn:FuncId)(tmps:Array Value)(a:Nat):Loop:={ state:= .ready,pending:=none,fn:=fn,tmps:=tmps,params:= #[7],assign:=M1,body:=M2,defers:=a }
abbrev jy :List Chunk:=[aG j [.slice O.1 R.length O.2] 211,aD 21 hj O.1 O.2 R,k4 G<|.loop N]
def aaz{B k D:Nat}{fn:FuncId}(n:U.size=13)(s:U[3]? = some (ptr B))(h:Option Addr × Nat)(d:List Int)(b:Int)(G:d.length<=100)(t:bc a (jy B k (jS fn U D) h d)):
 YieldAt (wk none) 0 prog k #[.int .i32 b] a (aX (λ_:Option Addr × Nat=> .bool true) (jy B k (jS fn U D) h d) (jy B k (jS fn U D) · (d++[b])) (λ_=>True) a):=by
 have o:=t.start a rfl
 have p:a.heap[k]? = some (.loop<|jS fn U D):=o.has<|Has.tail<|Has.tail Has.head
 refine⟨fn,U.setIfInBounds 7<|.int .i32 b,M1,M2,by simpa using run_yield (P:=prog) (args:= #[.int .i32 b]) p rfl,roundIn_of_wpIn bh ?_⟩;have u:hn 13 [(7,.int .i32 b),(3,ptr B)] ⟨U.setIfInBounds 7<|.int .i32 b,[]⟩:=by
  refine⟨by simp[n],rfl,λq H c=>?_⟩;simp only[look] at c
  cases i:Nat.beq 7 q with
  | true=>
   rw[i] at c;have:=gX i;subst this
   cases c;simp[n]
  | false=>
   rw[i] at c
   cases j:Nat.beq 3 q with
   | true=>
    rw[j] at c;have:=gX j;subst this
    cases c;simpa using s
   | false=>rw[j] at c;cases c
 refine wpIn_mono (M0 (ro:=some k) (Q:=λf v g=>f= .normal/\Sub v [(4,.int .i32 b),(3,ptr B)]/\g=a) (l:=[(7,.int .i32 b),(3,ptr B)]) (H:=λg=>g=a) (wB rfl rfl<|nD λ_ l=>⟨rfl,(ig rfl rfl),l⟩) (λ_ _ m=>by cases m.1) au rfl u) ?_;rintro f I w ⟨J,x,rfl,y,rfl⟩;refine⟨_,run_beginRound p rfl,?_⟩;have z:=o.putObj (o':= .loop { jS fn U D with state:= .busy })<|bC.tail<|bC.tail bC.head
 refine wpIn_block<|wpIn_mono (M0 (ro:=some k) (Q:=λf _ g=>f= .normal/\ ∃e:Option Addr × Nat,ag w (aK<|jy B k (jS fn U D) h d) [aG B [.slice e.1 (d++[b]).length e.2] 211,aD 21 hj e.1 e.2<|d++[b],k4 k<|.loop { jS fn U D with state:= .busy }] g) ?_ (λ_ _ m=>by cases m.1) au z<|x.sub y) ?_;refine k8 BJ rfl rfl bw rfl<|av ?_;refine ef (E:=hj) b mJ rfl rfl rfl rfl rfl λK L M=>?_;refine fu (E:=hj) mJ rfl rfl rfl bx (λ_ _=>fs) (by simp only[dV,gN,maxLen];omega) (by simp only[dV,gN];omega) λA C=>?_;refine av ?_;exact nD λ_ l=>⟨rfl,(A,C),l⟩;rintro f N E ⟨O,_,rfl,e,r⟩;have F:E.heap[k]? = some (.loop { jS fn U D with state:= .busy }):=r.has<|Has.tail<|Has.tail Has.head
 exact⟨_,_,run_endRound none F,e,bh,rfl,r.putObj<|bC.tail<|bC.tail bC.head⟩
def aaA(b: (aG j (vx V) 206).pred a)(c:V.fN=0):ay 106 [ptr j] a (il (.slice none 0 0) a):=by
 refine ba func106 ntmps106 ?_;refine gQ ?_;refine bb bY rfl rfl (λf d=>d.cc b au rfl)<|aI ?_;refine e_ rfl ((bI c))<|aY ?_;exact λg e=>⟨rfl,e.ext⟩
abbrev sv:d4:=⟨0,0,0,0,0⟩
def aaB{d:d4}{e:List Int}(f:p.foldlM jQ (sv,[])=some (d,e))(h: (p.take g).foldlM jQ (sv,[])=some (u,k))(b:p[g]? = some W): ∃c a,iG u W=some (c,a)/\(p.take<|g+1).foldlM jQ (sv,[])=some (c,k++a):=by
 have m:p=p.take g++W::p.drop (g+1):=by
  have n:=(cH.1 b).1
  have:=lY n
  rw[(cH.1 b).2] at this
  rw[<-this,iJ]
 rw[m,rk,h] at f
 obtain⟨⟨c,t⟩,i,_⟩:=k7.1<|show ((jQ (u,k) W).bind λo=>(p.drop<|g+1).foldlM jQ o)=some (d,e) from f;obtain⟨⟨q,a⟩,r,s⟩:=sO.1 i;injection s with j l
 dsimp only at j l
 subst j l;refine⟨q,a,r,?_⟩;rw[jH b,rk,h];show [W].foldlM jQ (u,k)=_
 rw[lu,i];rfl
def Fo: ∀(f:List UInt8)(g d:d4)(e b:List Int),f.foldlM jQ (g,e)=some (d,b)->b.length<=e.length+f.length
 | [],g,d,e,b,a=>by
  have a:some (g,e)=some (d,b):=a
  injection a with a
  injection a with _ h
  subst h;simp
 | c::f,g,d,e,b,a=>by
  rw[lu] at a
  obtain⟨⟨p,q⟩,j,k⟩:=k7.1 a;obtain⟨⟨l,r⟩,m,n⟩:=sO.1 j;injection n with i h
  dsimp only at i h
  subst i h;have o:=Fo f l d _ b k
  have s:=Ek m
  simp only[b3,dV] at o ⊢
  omega
def aaC{B k D:Nat}{fn:FuncId}{tmps:Array Value}(T:tmps.size=13)(U:tmps[3]? = some (ptr B))(j:Option Addr × Nat){n c:Nat}{L:List UInt8}(V: (aG g [.slice h n c] 48).pred a)(G:g∉aK (jy B k (jS fn tmps D) j []))(w:Rd cI a (λb=>b∉aK (jy B k (jS fn tmps D) j [])) h n c L)(Zp:n<=64)
 {s:List Int} (H:L.foldlM jQ (sv,[])=some (u,s)) (W:u.fN=0) (I:bc a (jy B k (jS fn tmps D) j [])):
 ay 466 [.func (.yield k) #[] #[],ptr g] a (aX (λ_:Option Addr × Nat=> .tuple #[]) (jy B k (jS fn tmps D) j []) (jy B k (jS fn tmps D) · s) (λ_=>True) a):=by
 have Zq:=w.len
 obtain⟨e,X⟩ : ∃e,e=jS fn tmps D:=⟨_,rfl⟩;have J:=λt f af b=>aaz t (B:=B) (k:=k) (D:=D) (fn:=fn) T U f af b
 rw[<-X] at G w I J ⊢
 refine bX func466 ntmps466 I ?_;refine ap ?_;intro m Zr Zs;refine aI ?_;refine bb oB rfl rfl (λY x=>x.cc V G rfl)<|aI ?_;refine cd (ι:=Nat × d4 × List Int × (Option Addr × Nat)) (λb=>[(0,.func (.yield k) #[] #[]),(3,ptr m),(10,.slice h n c),(11,ad (n:Int)),(12,ad (b.1 :Int))]) (λb=>ag a (aK<|jy B k e j [])<|aG m (vx b.2.1) 206::jy B k e b.2.2.2 b.2.2.1) (λb=>b.1<=n/\nb b.2.1/\(L.take b.1).foldlM jQ (sv,[])=some (b.2.1,b.2.2.1)) (λb=>n - b.1) ?_ ?_;exact λt p=>⟨(0,sv,[],j),⟨aa,⟨by simp,by simp⟩,rfl⟩,(en rfl rfl rfl rfl rfl),p⟩
 rintro⟨f,K,af,y⟩ ⟨Z,M,v⟩;have Za:=Fo _ _ _ _ _ v
 simp only[dR,gN] at Za
 dsimp only at Z M
 refine (aE) (λZb=>?_) λZb=>?_;obtain⟨c0,N⟩ : ∃c0,L[f]? = some c0:=⟨_,bD aa⟩;obtain⟨Zt,Zu,O,Zc⟩:=aaB H v N;have Zv:=Ek O
 obtain⟨Zw,Zd,Ze,Zf⟩:=w.at_ N;refine aH ?_;refine bE (q:=f) hC rfl rfl rfl Zd rfl aa ?_;refine bb pg rfl rfl (λZx z=>z.ch (Zf 0 _ rfl)<|by simp only[block_add];exact Ze) ?_;refine aH ?_;refine dE (Ji · Tl K · M c0) λZg Zh=>?_;obtain⟨A,q,r,d⟩:=Zg;obtain⟨P,Zy,Zi⟩:=Zh;obtain⟨Q,R⟩:=Zi _ O;dsimp only at Q R P;subst Q R
 refine aI ?_;refine cd (ι:=Nat × (Option Addr × Nat)) (λb=>[(0,.func (.yield k) #[] #[]),(3,ptr m),(10,.slice h n c),(11,ad (n:Int)),(12,ad (f:Int)),(17,.slice q d.length r),(18,ad (d.length:Int)),(19,ad (b.1 :Int))]) (λb=>ag a (aK<|jy B k e j [])<|jy B k e b.2 (af++d.take b.1)++[aG m (vx A) 206,aD 21 hj q r d]) (λb=>b.1<=d.length) (λb=>d.length - b.1) ?_ ?_;exact λt p=>⟨(0,y),b4 _,(po rfl rfl rfl rfl rfl rfl rfl rfl),by rw[List.take_zero,eZ];exact p.aF ah⟩
 rintro⟨l,C⟩ Zj;dsimp only at Zj
 refine (aE) (λZk=>?_) λZk=>be ?_;obtain⟨fP,S⟩ : ∃fP,d[l]? = some fP:=⟨_,bD aa⟩;refine aH ?_;refine ik (E:=hj) (A:=q) (c:=r) (L:=d) (q:=l) j4 mJ rfl rfl rfl rfl aa λZz Zl=>bb h_ rfl rfl (λY x=>x.Ad (E:=hj) (L:=d) j4 Zl S _ rfl)<|a7 ?_;refine gA (λo=>[(26,.bool false),(0,.func (.yield k) #[] #[]),(3,ptr m),(10,.slice h n c),(11,ad (n:Int)),(12,ad (f:Int)),(17,.slice q d.length r),(18,ad (d.length:Int)),(19,ad (l:Int))]) (λo:Option Addr × Nat=>ag a (aK<|jy B k e j [])<|jy B k e o (af++d.take (l+1))++[aG m (vx A) 206,aD 21 hj q r d]) (λ_=>True) ?_ ?_;refine aay<|nu.move rfl rfl<|nu.move rfl rfl ?_;refine nu.yield (l0:=jy B k e C<|af++d.take l) ah rfl rfl rfl (λE F=>J E C _ fP (by simp only[b3,dR];omega)<|F.cb ah) λo _=>?_;refine nu.of (λ_ _ i=>i) au<|av ?_;exact nD<|dN o bh (uK rfl rfl rfl rfl rfl rfl rfl rfl rfl) (λ_ i=>by rw[jH S,<-ec];exact i);intro o _;refine a6 ?_;exact bv (l+1,o) (show l+1<=d.length by omega) (show d.length - (l+1)<d.length - l by omega) b5 λ_ i=>i;exact bv (f+1,A,af++d,C) ⟨show f+1<=n by omega,P,Zc⟩ (show n - (f+1)<n - f by omega) b5 (λ_ i=>by rw[eT aa] at i;exact i.aF ah);have Zm:f=n:=by omega
 subst Zm;rw[eT aa,H] at v
 obtain⟨rfl,rfl⟩ :u=K/\s=af:=by injection v with i;injection i with z Zn;exact⟨z,Zn⟩
 refine aU ?_;refine bd (λE F=>aaA E m u (F.has (c:=aG m (vx u) 206) bw) W)<|aI ?_;refine cd (ι:=Unit) (λ_=>[(0,.func (.yield k) #[] #[]),(29,.slice none 0 0),(30,z0),(31,z0)]) (λ_=>ag a (aK<|jy B k e j [])<|jy B k e y s) (λ_=>True) (λ_=>0) (λt p=>⟨(),bh,(da rfl rfl rfl rfl),p.aF ah⟩) λ_ _=>b6 ?_;exact λZA Zo=>aX.cf y bh rfl Zo
def Rd.off{c:b1 X}(f:0<c.ax){L:List X}(j:Rd c E i h g F L)(d:ag E v q I)(e: ∀a,i a->a∉v)(k:aP q J K):Rd c I (λa=>a∉aK J) h g F L:=
 ((j.iz f).ext d.ext λa b=>e a b.1).d8 (λa b l=>e a b.1 (d.eU a (by
  obtain⟨F,m,n⟩:=er.1 l;exact er.2 ⟨F,k.perm.mem_iff.2<|by simp[m],n⟩) b.2))
def aaD(c d:Nat):ay 406 [.slice Y c d] a (aX (λb:Nat=> .func (.func 466) #[] #[ptr b]) [] (λb=>[aG b [.slice Y c d] 48]) (λ_=>True) a):=by
 refine ba func406 ntmps406 ?_;refine ap ?_;intro e f g;refine bP ?_;exact jG e bh
def aaE{b:Func}(d:b.ntmps=g)(e:Nat.ble Z.length g=true):hn g (pa Z 0) ⟨Z.toArray++Array.replicate (b.ntmps - Z.toArray.size) undef,[]⟩:=by
 subst d;have i:=ej e
 refine⟨by simp;omega,rfl,λc f a=>?_⟩;obtain⟨_,a⟩:=FG Z 0 c f a;have h:c<Z.length:=(cH.1<|by simpa using a).1
 simp only[lv] at a
 rw[wn (by simpa using h)];simpa using a
def aaF{d c:Nat}(J:Rd cI a i h d c p)(K:d<=64)(L:p.foldlM jQ (sv,[])=some (u,k))(M:u.fN=0):
 ay 325 [.slice h d c] a (aX (λq:Option Addr × Nat=> .slice q.1 k.length q.2) [] (λq=>[aD 21 hj q.1 q.2 k]) (λ_=>True) a):=by
 refine callsIn_wide.1<|callsIn_of_wp_marks (F:=Fence.wide) (n:=0) func325 rfl bh (wpIn_wide.2 ?_) rfl;refine Fl (H:=λx=>x=a) (G:=λr x=>Sub r [(0,.slice h d c)]/\ag a [] [] x) (ly<|wB rfl rfl<|nD<|Fm λx s=>⟨(ut rfl),ag.FH _ _ s⟩) rfl (aaE ntmps325 rfl) ?_;rintro Zg Zh Zi N ⟨O,P⟩;refine Fl (H:=ag a [] []) (G:=λr x=> ∃g,Sub r [(0,.slice h d c),(3,ptr g)]/\ag a [] [aG g [.slice none 0 0] 211] x) (ly<|sP BJ rfl λg _ _=>nD<|Fm λx s=>⟨g,(ig rfl rfl),s⟩) P (N.sub O) ?_;rintro Zj Zk Zl Q ⟨g3,R,S⟩;refine wp_seq<|Fl (H:=ag a [] [aG g3 [.slice none 0 0] 211]) (G:=λr x=> ∃g,Sub r [(3,ptr g3),(6,.func (.func 466) #[] #[ptr g])]/\ag a [] [aG g [.slice h d c] 48,aG g3 [.slice none 0 0] 211] x) (ly<|gY rfl rfl<|kH (aaD · h d c) λg _=>nD<|Fm λx s=>⟨g,(ig rfl rfl),s⟩) S (Q.sub R) ?_;rintro Zm e v T ⟨cu,U,V⟩;have j:=T.sub U
 refine wp_block<|wpIn_wide.1<|wpIn_rangeFunc (F:=Fence.wide) (n:=0) λfn _=>?_;obtain⟨D,w⟩ : ∃D,D=v.heap.size:=⟨_,rfl⟩;obtain⟨f,y⟩ : ∃f,f=jS fn e.tmps D:=⟨_,rfl⟩;have z:ag a [] [k4 (D+1) (.loop f),k4 D<|.deferred<|some [],aG cu [.slice h d c] 48,aG g3 [.slice none 0 0] 211] ((v.alloc<|.deferred<|some []).alloc<|.loop f):=by
  have W:=V.newObj<|.deferred<|some []
  have A:=W.newObj<|.loop f
  rw[World.size_alloc,<-w] at A
  exact A
 obtain⟨l,B⟩ : ∃l,l=(v.alloc<|.deferred<|some []).alloc (.loop f):=⟨_,rfl⟩;rw[<-B] at z
 have m:ag a [] (jy g3 (D+1) f (none,0) []++[k4 D (.deferred<|some []),aG cu [.slice h d c] 48]) l:=(z.e4 21 hj).aF ah
 have X:e.eval (.tmp 6)= .func (.func 466) #[] #[ptr cu]:=j.bi (x:= .tmp 6) rfl
 refine⟨D+1,[{ target:= .collected D,args:= #[] }],l,{ target:= .fn (.func 466) #[ptr cu],args:= #[.func (.yield<|D+1) #[] #[]] },l,466,#[.func (.yield<|D+1) #[] #[],ptr cu],l,?_,?_,λ_ _=>bh,?_,(λn=>by cases n),?_⟩;rw[B,y,w];exact run_enterLoop_outer _ _ _ _ _
 have n:=X
 simp only[Act.eval] at n
 simp[resolve,rangeCall,Deferred.ofValue,Act.eval] at n ⊢
 rw[n];rfl
 simp[invoke,yE<|cL (f:=466)]
 have C:cu∉aK (jy g3 (D+1) f (none,0) []):=λY=>by
  have E:=m.nodup
  rw[jb,gO] at E
  exact E.2.2 cu Y cu (by simp[aK,k4,aG]) rfl
 rw[y] at m C
 refine callsIn_wide.2<|Calls.mono (aaC l (B:=g3) (k:=D+1) (D:=D) (fn:=fn) (tmps:=e.tmps) j.size (j.val 3 _ rfl) (none,0) (m.has (c:=aG cu [.slice h d c] 48) j4) C ((J.off aW m au ah)) K L M<|m.cb ah) ?_;rintro n F ⟨b,_,rfl,Z⟩;have G:=m.mR (cs':=[k4 D (.deferred<|some []),aG cu [.slice h d c] 48]) ah Z
 have Za:F.heap[D+1]? = some (.loop<|jS fn e.tmps D):=G.has (c:=k4 (D+1)<|.loop<|jS fn e.tmps D) cW
 refine⟨none,_,run_endLoop Za au,?_⟩;have t:=G.putObj (k:=D+1) (o':= .loop { jS fn e.tmps D with state:= .exhausted }) l4
 obtain⟨o,Zb⟩ : ∃o,o=F.putObj (D+1) (.loop { jS fn e.tmps D with state:= .exhausted }):=⟨_,rfl⟩;rw[<-Zb] at t ⊢
 obtain⟨Zn,Zc,Zd⟩:=(BJ).gf;have H:e.eval (.tmp 3)=ptr g3:=j.bi (x:= .tmp 3) rfl
 have I:o.cell? ⟨g3,0,none⟩=some (.slice b.1 k.length b.2):=t.e8 (g:=g3) (xs:=[.slice b.1 k.length b.2]) (o:=0) bw rfl
 refine wp_seq<|wp_region_lit<|wpOp rfl (v:= .slice b.1 k.length b.2) (w':=o) ?_<|wpOp rfl (v:= .slice b.1 k.length b.2) (w':=o) ?_<|wp_ret ?_;simp[execOp,Instr.loadAt,Instr.sureAddr,loadVar,qg Zc,Zd,I,Act.eval] at H ⊢
 simp[H,I]
 have:=((j.put (d:=12) aW<|.slice b.1 k.length b.2).bi (x:= .tmp 12) rfl)
 simp[execOp,Act.eval,Act.put] at this ⊢
 exact this;have Ze:o.heap[D]? = some (.deferred<|some []):=t.has (c:=k4 D<|.deferred<|some []) hL
 have Zf:=(((j.put (d:=12) aW<|.slice b.1 k.length b.2).put (d:=2) aW<|.slice b.1 k.length b.2).val 2 _ rfl)
 show LeavesInM _ _ _ _ _ _ ({ target:= .collected D,args:= #[] }::e.defers) _ _
 rw[j.qd];refine⟨by simp,.inl ⟨D,_,rfl,run_takeDeferred Ze,(⟨_,results_tmp results325 _ _ _,b,bh,?_,(t.putObj (k:=D) (o':= .deferred none) oH).aF ah⟩)⟩⟩;rw[k5];exact a_ (λx=>Ending.returned<|x.getD undef) Zf
section
variable {H:World->Prop}{cS et:TypeId}{x y:Operand}{xs ys:List Value}
def yt{r:Bool}(a:oz P cS)(f:Nat.blt d n=true)(g:bi l x=some (.agg xs.toArray))(h:bi l y=some (.agg ys.toArray))(i:alike P 50 cS xs ys=true)(j:eqv xs ys=r)
 (k:aM P n ops Q rest ((d,.bool<|!r)::l) H):aM P n ops Q (⟨some d,.binOp .neq cS x y et,ty,pos,bf,none⟩::rest) l H:=by
 refine dB _ f (λo b c=>?_) k;have m:=run_eqGuard_agg (P:=P) b .neq cS x y xs.toArray ys.toArray a.guard
 have e:=run_neq_struct (P:=P) b cS xs.toArray ys.toArray
 rw[F6 a i] at e
 simp only[execOp,c x _ g,c y _ h];simp only[Sem.run_bind,m,Result.andThen_ok,e,Sem.run_pure,j]
end
def Bk :eqv [ad w.cM,ad w.fn,ad w.aq,ad w.aR,ad w.bB] [ad L.cM,ad L.fn,ad L.aq,ad L.aR,ad L.bB]=decide (w=L):=by
 obtain⟨a,b,c,d,e⟩:=w;obtain⟨f,g,ey,h,i⟩:=L;simp only[eqv,rA,dH.mk.injEq,rh];by_cases j:a=f <;> by_cases k:b=g <;> by_cases l:c=ey <;> by_cases m:d=h <;> by_cases n:e=i <;> simp[j,k,l,m,n]
def aaG(e:List UInt8)(f:oT e):ay 235 [bU e] a (il (.bool true) a):=by
 obtain⟨y,c,j,g⟩:=f;obtain⟨z,A,k,h⟩:=K_ c sv [] j rfl rfl;rw[<-g,mA] at h
 have l:=Fo _ _ _ _ _ h
 simp only[gN] at l
 have m: ∀b,((c.take b).flatMap dk).length<=e.length:=λb=>by
  rw[g,<-iJ b c,sw,b3];simp
 refine ba func235 ntmps235 ?_;refine cn ?_;refine ff rfl ((bJ aa))<|bP ?_;refine Os.xO underlying9 underlying48 underlying5 rfl rfl aa λcu B C D n o=>bK (l0:=[]) aP.nil (λp q=>aaF p (Os.Rd.xN (E:=cI) (e:=5) q (g:=cu) bw n o) aa h k) λd _=>?_;refine aI ?_;refine cd (ι:=Nat) (λb=>[(0,bU e),(3,ad (((c.take b).flatMap dk).length:Int)),(11,.slice d.1 c.length d.2),(12,ad (c.length:Int)),(13,ad (b:Int))]) (λ_=>ag a [] [aD 21 hj d.1 d.2 c]) (λb=>b<=c.length) (λb=>c.length - b) ?_ ?_;exact λE r=>⟨0,b4 _,(en rfl rfl rfl rfl rfl),r.aF ah⟩
 intro b F;refine (aE) (λs=>?_) λs=>?_;obtain⟨fP,i⟩ : ∃fP,c[b]? = some fP:=⟨_,bD aa⟩;have G:cO fP=0:=j fP<|cR i
 have t: ((c.take<|b+1).flatMap dk).length=((c.take b).flatMap dk).length+(dk fP).length:=by
  rw[jH i,sw,b3];simp
 have H:=m<|b+1
 refine aH ?_;refine ik (E:=hj) (A:=d.1) (c:=d.2) (L:=c) (q:=b) bw mJ rfl rfl rfl rfl aa λI u=>bb h_ rfl rfl (λJ v=>v.Ad (E:=hj) (L:=c) bw u i _ rfl)<|aU ?_;refine bF (w5 · fP)<|ap ?_;refine ff rfl ((bJ aa))<|aI ?_;refine bF (wY · fP)<|be ?_;exact bv (b+1) aa aa (by rw[t,Int.natCast_add];exact b5) λ_ f=>f.aF ah;have w:c.take b=c:=eT aa
 refine fa ?_;exact λK x=>⟨by rw[w,<-g];simp,x.ext⟩
def aaH(q:vZ A)(r:A.half=0\/A.half=1\/A.half=2):ay 158 [.agg A.enc.toArray] a (il (.bool true) a):=by
 have c:=q.k
 obtain⟨j,h,d,s⟩:=A;dsimp only at r
 refine ba func158 ntmps158 ?_;refine ap ?_;intro o z B;refine dO ?_;refine gA (λww:Int=>[(1,ptr o),(3,ad ww)]) (λ_=>ag a [] [aG o (aL.enc ⟨j,h,d,s⟩) 81]) (λww=>(d=0/\ww=1)\/((d=1\/d=2)/\ww=2)) ?_ ?_
 ·refine aY ?_
  focus (refine (cj) (λe=>?_) λe=>?_;have p:=e;(simp only[cq] at e);refine aA ?_;refine e_ rfl ((bI p))<|a7 ?_;rotate_left;have p:=e;(simp only[cq] at e);refine aI ?_;refine (cj) (λf=>?_) λf=>?_;have t:=f;(simp only[cq] at f);refine a7 ?_;rotate_left;have t:=f;(simp only[cq] at f);refine aH ?_;refine (cj) (λg=>?_) λg=>?_;have u:=g;(simp only[cq] at g);refine a7 ?_;rotate_left;have u:=g;(simp only[cq] at g);refine aA ?_;all_goals (refine dN _ ?_ (ig rfl rfl) λ_ v=>v.aF ah;omega))
 rintro ww C;refine (aE) (λi=>?_) λi=>?_
 ·have l:h=[]/\d=0:=by
   rcases c with c | ⟨_,⟨_,b⟩ | ⟨_,b⟩⟩
   ·injection c with _ m w _
    exact⟨m,w⟩
   ·rw[i,qN] at b;omega
   ·rw[i,qN] at b;omega
  refine aH ?_;refine bO rfl rfl (bI l.1)<|av ?_;refine bO rfl rfl (bI l.1)<|av ?_;refine mF rfl rfl (bI l.1) rfl<|aH ?_;exact λx b=>⟨by rw[show decide (ww≠2)=true from bI aa],b.ext⟩
 ·obtain⟨y,D⟩ :oT h/\cO j=ww:=by
   rcases c with c | ⟨n,m⟩
   ·injection c with n
    exact absurd n i
   ·exact⟨n,by dsimp only at m;omega⟩
  refine aU ?_;refine bO rfl rfl (bI aa)<|av ?_;refine bO rfl rfl (bI aa)<|av ?_;refine bO rfl rfl (bI aa)<|bF (w5 · j)<|bO rfl rfl (bI aa)<|av ?_;refine bO rfl rfl (bI aa)<|av ?_;refine mF rfl rfl (bI aa) rfl<|aH ?_;refine bF (aaG · h y)<|aH ?_;exact λx b=>⟨rfl,b.ext⟩
def aaI(i:World)(b:aL)(j:vZ b)(p:b.half=0\/b.half=1\/b.half=2):ay 94 [.agg b.enc.toArray] i (il (.bool true) i):=by
 have l: ∀e,ay 159 [.agg [ad b.at_.cM,ad b.at_.fn,ad b.at_.aq,ad b.at_.aR,ad b.at_.bB].toArray] e (λq s=>q= .returned (.bool true)/\Ext [] e s):=λe=>by
  have f:=bj.JM e b.at_
  rw[Le j.a,show bj.ez b.at_=true from j.a] at f
  exact f
 have m:b.r=0->b.at_=⟨0,0,b.at_.aq,b.at_.aR,0⟩:=λn=>by
  rcases j.k with t | ⟨_,⟨_,c⟩ | ⟨_,c⟩⟩
  ·exact a_ aL.at_ t
  ·rw[n,qN] at c;omega
  ·rw[n,qN] at c;omega
 obtain⟨u,v,d,g⟩:=b;dsimp only at p m l
 refine ba func94 ntmps94 ?_;refine ap ?_;intro o x y;refine aI ?_;refine mG ([(1,ptr o),(14,.bool false)]) (ag i [] [aG o (aL.enc ⟨u,v,d,g⟩) 81]) ?_ ?_
 ·refine aI ?_
  focus (refine bl 6 rfl (λh=>?_) λh=>?_;have w:=bg h;refine cn ?_;refine yt (r:=true) yS rfl rfl rfl ak ((Bk g ⟨0,0,g.aq,g.aR,0⟩).trans<|bI<|m<|bg h)<|aA ?_;rotate_left;have w:=bm h;refine a6 ?_;all_goals (exact iQ (ig rfl rfl) λ_ f=>f.aF ah))
 refine be ?_;refine bO rfl rfl (bI<|show d≠3 by omega) ?_;refine av ?_;refine bO rfl rfl (bI<|show d≠3 by omega) ?_;refine av ?_;refine bO rfl rfl (bI<|show d≠3 by omega) ?_;refine bF (l ·) ?_;refine mF rfl rfl (bI<|show d≠3 by omega) rfl ?_;refine aI ?_;exact λz c=>⟨rfl,c.ext⟩
def aaJ{n:Nat}(f:Rd bW a i h n g C)(j:q7 C)(N:n<=1000):ay 93 [.slice h n g] a (il (.bool true) a):=by
 have O:=f.len
 have w:=j.rt.xq
 refine ba func93 ntmps93 ?_;refine a6 ?_;refine yM (hargs:=rfl) (λs k=>B4 s _ h n g C (f.df k.ext) aa) λP x y e z Q R t l=>?_;rw[w] at l
 have S:=l.len
 have A:=f.df t.ext
 have B:=t.ext
 refine aI ?_;refine cd (ι:=Nat) (λb=>[(0,.slice h n g),(6,.slice y e z),(7,ad (e:Int)),(8,ad (b:Int))]) (λ_=>ag x [] []) (λb=>b<=e) (λb=>e - b) ?_ ?_;exact λs k=>⟨0,b4 _,(da rfl rfl rfl rfl),k⟩
 intro b T;refine (aE) (λD=>?_) λD=>b6 ?_;obtain⟨d,m⟩ : ∃d,C[b]? = some d:=⟨_,bD aa⟩;obtain⟨U,E,V,F⟩:=l.at_ m;obtain⟨W,G,X,H⟩:=A.at_ m;have u:=cR m
 refine aU ?_;refine bE (q:=b) dj rfl rfl rfl E rfl aa<|cE (vs:=d.enc) gh rfl rfl rfl (λI J o p q=>J.ch (F o p q) au)<|av ?_;intro Y Z Za;refine aI ?_;refine bN [0,1,2,3,4,5,6,7] 1 [[(8,true,[9,10])]] ?_;refine ap ?_;refine aO rfl (λv r=>(bE (q:=b) dj rfl rfl rfl G rfl aa aJ)) ?_;refine aO rfl (λv r=>(cE (vs:=d.enc) gh rfl rfl rfl (λI K o p q=>by subst K;exact r.ch (H o p q) au) aJ)) ?_;refine aO rfl (λv r=>(yt (r:=true) uA rfl rfl rfl ak ((uL d d).trans<|bI rfl) aJ))<|aI ?_;refine bF (aaH · d (j.c d u) (j.rt.half d u))<|cZ ?_;exact bv (b+1) aa aa b5 λ_ L=>L.aF aP.nil;exact λZb M=>⟨rfl,B.eC M.ext⟩
def Bl{n m:Nat}(b:dT a i h n g D){c:bq}(e:D[0]? = some c)(s:c.1.length=m):ay 37 [.slice h n g] a (il (.tuple #[ad (n:Int),ad (m:Int)]) a):=by
 have t:=b.len
 have u:=(cH.1 e).1
 obtain⟨v,w,j,d,k,x,l,o⟩:=b.at_ e;have y:=o.len
 obtain rfl:j=m:=by omega
 refine ba func37 ntmps37 ?_;refine cZ ?_;refine ff rfl ((bJ aa))<|ap ?_;refine bN [0,1,2,3,4,5,6,7,8] 0 [[]] ?_;refine ap ?_;refine aO rfl (λp f=>(bE (q:=0) dy rfl rfl rfl k rfl aa aJ))<|av ?_;refine aO rfl (λp f=>(bb j3 rfl rfl (λz q=>by subst q;exact f.ch (l 0 _ rfl) au) aJ)) ?_;refine aY ?_;exact λA r=>⟨rfl,r.ext⟩
structure nv (n m:Nat) (cQ:List bq):Prop where
 aC:1<=n/\n<=100
 hm:2<=m/\m<=100
 len:cQ.length=n
 c: ∀r∈cQ,q7 r.1/\r.1.length=m/\r.2=false
def Fp{n m:Nat}(v:dT a i h n g D)(E:nv n m D):ay 38 [.slice h n g] a (il (.bool true) a):=by
 obtain⟨O,P,Q,w⟩:=E;obtain⟨fP,y⟩ : ∃fP,D[0]? = some fP:=⟨_,bD aa⟩;refine ba func38 ntmps38 ?_;refine aY ?_;refine bd (λk l=>Bl k (v.ext l.ext au) y (w fP<|cR y).2.1)<|cn ?_;refine bO rfl rfl (bJ aa)<|av ?_;refine bO rfl rfl (bJ aa)<|av ?_;refine hd rfl rfl (bJ aa) rfl<|av ?_;refine bO rfl rfl (bJ aa)<|av ?_;refine bO rfl rfl (bJ aa)<|av ?_;refine hd rfl rfl (bJ aa) rfl<|av ?_;refine bO rfl rfl (bJ aa)<|av ?_;refine bO rfl rfl (bJ aa)<|av ?_;refine hd rfl rfl (bJ aa) rfl<|aA ?_;refine ff rfl ((bJ aa))<|bP ?_;refine cd (ι:=Nat) (λe=>[(0,.slice h n g),(4,ad (m:Int)),(28,.slice h n g),(29,ad (n:Int)),(30,ad (e:Int))]) (λ_=>ag a [] []) (λe=>e<=n) (λe=>n - e) ?_ ?_;exact λF o=>⟨0,b4 _,(en rfl rfl rfl rfl rfl),o⟩
 intro e R;refine (aE) (λG=>?_) λG=>b6 ?_;obtain⟨r,z⟩ : ∃r,D[e]? = some r:=⟨_,bD aa⟩;obtain⟨S,A,f,d,H,T,I,p⟩:=v.at_ z;obtain⟨q,U,V⟩:=w r<|cR z;have W:=p.len
 obtain rfl:f=m:=by omega
 refine aH ?_;refine bE (q:=e) dy rfl rfl rfl H rfl aa<|cE (vs:=[.slice A f d,.bool r.2]) gG rfl rfl rfl (λJ s b t j=>s.ch (I b t j) au)<|av ?_;intro X Y Z;refine b6 ?_;refine bO rfl rfl (bJ au)<|av ?_;refine bO rfl rfl (bJ au)<|av ?_;refine bO rfl rfl (bJ au)<|bd (λk l=>aaJ k (p.df l.ext) q aa)<|bO rfl rfl (bJ au)<|av ?_;refine hd rfl rfl (bJ au) rfl<|cZ ?_;refine cd (ι:=Nat) (λb=>[(0,.slice h n g),(4,ad (f:Int)),(28,.slice h n g),(29,ad (n:Int)),(30,ad (e:Int)),(46,.slice A f d),(47,ad (f:Int)),(48,ad (b:Int))]) (λ_=>ag a [] []) (λb=>b<=f) (λb=>f - b) ?_ ?_;exact λF o=>⟨0,b4 _,(po rfl rfl rfl rfl rfl rfl rfl rfl),o.aF aP.nil⟩
 intro b j;refine (aE) (λK=>?_) λK=>be ?_;obtain⟨x,B⟩ : ∃x,r.1[b]? = some x:=⟨_,bD aa⟩;obtain⟨Za,L,Zb,M⟩:=p.at_ B;have C:=cR B
 refine aH ?_;refine bE (q:=b) dj rfl rfl rfl L rfl aa<|cE (vs:=x.enc) gh rfl rfl rfl (λJ s b t j=>s.ch (M b t j) au)<|av ?_;intro Zc Zd Ze;refine aH ?_;refine bF (aaI · x (q.c x C) (q.rt.half x C))<|bP ?_;exact bv (b+1) aa aa b5 λ_ u=>u.aF aP.nil;exact bv (e+1) aa aa b5 λ_ u=>u;exact λZf N=>⟨rfl,N.ext⟩
def lq :List UInt8:=if w=L then [] else tR L
def ue{a:dH}(b:hc B): (lq a B).length<=87:=by
 have:=Wa b
 unfold lq;split <;> simp <;> omega
def yu{most:Int}{t:cA}{S:a1}{rows:List bq}{on:dH}{y:Int}{out:List UInt8}(b:hc B)(a:Sem most t S rows on y s out):Sem most t S rows B y s (out++lq on B):=by
 unfold lq;split
 rename_i c;subst c;rw[eZ];exact a
 exact Wb b a
structure rc (S:a1) (T cF:List aL):Prop where
 f:jo S
 oi:q7 T
 rt:dU cF
 l:T.length=cF.length
 dL: (T.length:Int)=S.bz.al
 c2:2<=T.length/\T.length<=100
def kZ.set{S:a1}{rows:List bq}(a:kZ S rows)(y:Nat)(c:List aL):kZ S (rows.set y (c,false)):=⟨by rw[gx];exact a.n,a.al,λd b=>by
 rcases sF b with b | rfl
 exact a.cont d b;rfl⟩
section
variable {most:Int}{t:cA}{rows:List bq}{on:dH}{T cF:List aL}{y:Nat}{out:List UInt8}
def aaK(b:rc S T cF)(i:y<rows.length)(d:T[g]? = some o)(j:o.r≠0)(e:o.half≠2)(h:Sem most t S (rows.set y (fD T cF g,false)) on y (mv T g:Nat) out):
 Sem most t S (rows.set y (fD T cF<|g+1,false)) o.at_ y (mv T (g+1):Nat) (out++lq on o.at_++dk o.r++o.more):=by
 rw[nj (Ep d e)] at h
 have:=KZ b.f b.oi b.rt b.l b.dL d j e (oo i)<|yu (b.oi.c o<|cR d).a h
 rw[sI] at this;exact this
def aaL(a:rc S T cF)(b:T[g]? = some o)(c:o.half=2)(d:Sem most t S (rows.set y (fD T cF g,false)) on y (mv T g:Nat) out):
 Sem most t S (rows.set y (fD T cF<|g+1,false)) on y (mv T (g+1):Nat) out:=by
 rw[fD,KY a.oi.rt b c];exact d
def M3(a:rc S T cF)(b:kZ S rows)(d:y<rows.length){i:Nat}(e:i<T.length)(c:Sem most t S rows on s M out):Sem most t S rows on y i (out++mu y i):=
 AV a.f b ⟨aa,aa⟩ ⟨aa,by have:=a.dL;omega⟩ c
def aaM(a:rc S T cF)(b:kZ S rows)(c:y<rows.length){i:Nat}(e:hc B)(f:Cut T i)(h:1<=g)(j:i+g<=T.length)(k: ∀d,d<g->T[i+d]? = some (hr B.aq B.aR))(m:Cut T (i+g))(n:Sem most t S (rows.set y (fD T cF i,false)) on s M out):
 Sem most t S (rows.set y (fD T cF<|i+g,false)) B y i (out++(mu y i++lq on B++pW g)):=by
 have o:=M3 a (b.set y _) (by rw[gx];exact c) (i:=i) aa n
 have:=Wk (b.set y _) a.oi a.rt a.l a.dL f h j (Et k) m (oo c)<|yu e o
 rw[sI] at this
 rw[<-ec,<-ec];exact this
end
def aaN(m:Nat): (List.replicate m eo).length=m:=by simp
def aaO{T cF:List aL}(b:dU T)(a:dU cF):fD T cF 0=cF:=K0 a au b.xZ a.xZ
def M4{T:List aL}{n:Nat}(b:T.length<=n):Cut T n:=λc a=>by rw[hK b] at a;cases a
def aaP{T cF:List aL}(a:dU cF)(b:T.length=cF.length):fD T cF T.length=T:=K1 a (by rw[uh,b,uh]) (M4<|cC _)<|M4 aa
def p2(a:aL):Prop:=(A.r=0↔a.r=0)/\(A.r=0->A.at_=a.at_)
def vZ.blank(c:vZ o)(b:o.r=0):o=hr o.at_.aq o.at_.aR:=by
 rcases c.k with d | ⟨_,⟨_,a⟩ | ⟨_,a⟩⟩
 exact d;rw[b,qN] at a;omega
 rw[b,qN] at a;omega
def aaQ{T:List aL}(f:q7 T){c:aL}(h:T[g]? = some c)(b:c.r=0)(o:g+F<=T.length)(i: ∀a,a<F-> ∀e,T[g+a]? = some e->p2 c e): ∀a,a<F->T[g+a]? = some c:=λa j=>by
 obtain⟨e,d⟩ : ∃e,T[g+a]? = some e:=⟨_,bD aa⟩;obtain⟨k,l⟩:=i a j e d;have m:=(f.c e<|cR d).blank<|k.1 b
 have n:=(f.c c<|cR h).blank b
 rw[d,m,n,l b]
def aaR{T:List aL}(h:q7 T)(u:T[g]? = some o)(v:1<=F)(w:g+F<=T.length)(q: ∀l,l<F-> ∀a,T[g+l]? = some a->p2 o a)(s: ∀a,T[g+F]? = some a-> ¬p2 o a):Cut T (g+F):=by
 intro a e i;have t:a.r≠0:=λj=>by
  have:=(h.c a<|cR e).blank j
  rw[this] at i
  exact absurd i (show ¬(0 :Int)=2 by decide)
 obtain⟨b,rfl⟩ : ∃b,F=b+1:=⟨F - 1,aa⟩;obtain⟨d,k⟩ : ∃d,T[g+b]? = some d:=⟨_,bD aa⟩;obtain⟨m,x⟩:=q b aa d k;by_cases n:d.half=1
 have f:=(h.rt.pair k n).1
 rw[show g+b+1=g+(b+1) by omega,e] at f
 injection f with f
 have p:a.r=d.r:=by rw[f]
 refine s a e ⟨?_,λj=>absurd (p.trans<|m.1 j) t⟩;rw[p];exact m
 exact h.rt.cut k n a (by rw[show g+b+1=g+(b+1) by omega];exact e) i
def ag.later{d:World}(a:ag E v q I)(g:aP q J K)(b:Ext (aK J) I d):Ext v E d:=by
 have h:=a.ext.size
 refine⟨b.os.trans a.ext.os,b.tape.trans a.ext.tape,b.output.trans a.ext.output,ge h b.size,λc e f=>?_⟩;refine (b.block c aa λi=>f<|a.eU c ?_ e).trans<|a.ext.block c e f;obtain⟨j,k,l⟩:=er.1 i;exact er.2 ⟨j,g.perm.mem_iff.2<|by simp[k],l⟩
abbrev re :List Value:=[ad w.cM,ad w.fn,ad w.aq,ad w.aR,ad w.bB]
structure kq where
 b:Nat
 bt:Option Addr
 z:hR
 on:dH
abbrev kq.e(a:kq):List Value:=ptr a.b::re a.on
abbrev fq(a:kq):List Chunk:=[aG j a.e 106,aG a.b [.pointer a.bt,a.z.val] 104,a.z.aD]
def nw(a:kq):Prop:=a.bt=none\/a.bt=some ⟨a.b,0,none⟩
def Fq(c:kq)(d:dH)(e:List UInt8)(f:World):Ending->World->Prop:=aX (λ_:kq=> .tuple #[]) (fq j c) (fq j) (λa=>nw a/\a.b=c.b/\a.on=d/\a.z.l=c.z.l++e) f
def yv:pL 104 2 0 (t:=104):=by unfold pL;kernel_rfl
def M5(g: ∀b,Ext [] a b->fJ b)(e c:dH)(h:hc c):
 ay 98 [.agg (re e).toArray,.agg (re c).toArray] a (λi b=>i= .returned (bU<|if e=c then [] else bj.lg c)/\Ext [] a b):=by
 refine ba func98 ntmps98 ?_;refine ap ?_;intro l m n;refine av ?_;intro o p q;refine aY ?_;refine rC yS rfl rfl rfl ak (Bk e c) ?_;refine (aE) (λd=>aY ?_) λd=>aI ?_;exact λj f=>⟨by rw[aB d],f.ext⟩
 refine bd (λb k=>by have d:=bj.JN b (g b k.ext) c;rw[Le h] at d;exact d) ?_;refine aI ?_;exact λj f=>⟨by rw[ai d],f.ext⟩
def Fs(b:kq)(k: ∀m,Ext (aK<|fq j b) a m->fJ m)(o:bc a (fq j b))(p:nw b)(e f:Int)(q:0<=e/\e<999)(r:0<=f/\f<999)(s:b.z.l.length<=1000000):
 ay 42 [ptr j,ad e,ad f] a (Fq j b b.on (mu e f) a):=by
 obtain⟨g,ba,z,t⟩:=b;have n:=q6 q r
 unfold mu at n
 simp only[b3,dV,gN] at n
 dsimp only at s
 refine bX func42 ntmps42 o ?_;refine bN [0,1,2,3,4,5,9,10] 3 [[(6,false,[7,8]),(11,false,[12,13]),(14,true,[])]] ?_;refine be ?_;refine bd (hargs:=rfl) (λc d=>qJ c (k c d.ext) _ aa)<|av ?_;refine aO rfl (λh i=>(eb rfl rfl rfl cg aJ)) ?_;refine aO rfl (λh i=>(eb rfl rfl rfl cg aJ))<|aA ?_;refine bd (hargs:=rfl) (λc d=>qJ c (k c d.ext) _ aa)<|av ?_;refine aO rfl (λh i=>(eb rfl rfl rfl cg aJ)) ?_;refine aO rfl (λh i=>(eb rfl rfl rfl cg aJ))<|aA ?_;refine bK (l0:=[aG g [.pointer ba,z.val] 104,z.aD]) ah (hargs:=rfl) (λc d=>o2 c (d.cb ah) (o:=0) (xs:=[.pointer ba,z.val]) (ba:=ba) (z:=z) rfl rfl p yv _<|by simp only[b3,dV,gN];omega) λu v=>?_;refine a7 ?_;exact bT ⟨g,some ⟨g,0,none⟩,u,t⟩ ⟨.inr rfl,rfl,rfl,v⟩
def Ft(f:kq)(r: ∀g,Ext (aK<|fq j f) a g->fJ g)(t:bc a (fq j f))(o:nw f)(d:dH)(p:hc d)(u:f.z.l.length<=1000000):
 ay 41 [ptr j,.agg (re d).toArray] a (Fq j f d (lq f.on d) a):=by
 obtain⟨h,ba,z,i⟩:=f;have y:=bj.zY d
 dsimp only at u
 have q:=bj.CS p
 obtain⟨s,c⟩ : ∃s,(if i=d then [] else bj.lg d)=s:=⟨_,rfl⟩;have A:s.length<=500:=by (rw[<-c];split;exact b4 _;omega)
 refine bX func41 ntmps41 t ?_;refine ap ?_;intro B C D;refine ap ?_;refine bN [0,1,2,3,4] 1 [[(5,true,[6])]] ?_;refine aU ?_;refine bd (λk m=>by have b:=M5 k (λg b=>r g<|m.ext.eC b) i d p;rw[c] at b;exact b) ?_;refine aY ?_;refine BB rfl rfl rfl ?_;refine (aE) (λe=>aU ?_) λe=>aA ?_;refine eb rfl rfl rfl cg<|eb rfl rfl rfl cg ?_;refine bK (l0:=[aG h [.pointer ba,z.val] 104,z.aD]) ah (hargs:=rfl) (λk m=>o2 k (m.cb ah) (o:=0) (xs:=[.pointer ba,z.val]) (ba:=ba) (z:=z) rfl rfl o yv _<|by simp;omega) λv w=>?_;refine be ?_;intro x n;have e:=e
 exact eV ⟨h,some ⟨h,0,none⟩,v,d⟩ ⟨.inr rfl,rfl,rfl,by rw[w,lq,ai λb=>by rw[aB b] at c;exact e c.symm,tR,<-c,ai λb=>by rw[aB b] at c;exact e c.symm]⟩ n;intro x n;have e:=e
 exact eV ⟨h,ba,z,i⟩ ⟨o,rfl,Classical.byContradiction λb=>by (rw[ai b] at c;exact q<|c.trans<|by simpa using e),by rw[lq,aB<|Classical.byContradiction λb=>by (rw[ai b] at c;exact q<|c.trans<|by simpa using e),eZ]⟩ n
def aaS(c:kq)(r: ∀f,Ext (aK<|fq j c) a f->fJ f)(H:bc a (fq j c))(x:nw c)(g h n:Int)(y:0<=g/\g<999)(A:0<=h/\h<999)(I:0<=n/\n<1000)(d:dH)(B:hc d)(J:c.z.l.length<=900000):
 ay 96 [ptr j,ad g,ad h,ad n,.agg (re d).toArray] a (Fq j c (if d=fi then c.on else d) (if d=fi then [] else mu g h++lq c.on d++pW n) a):=by
 obtain⟨s,ba,z,o⟩:=c;have T:=q6 y A
 have U:=ue (a:=o) B
 dsimp only at J
 have C:=KS I
 unfold pW at C
 simp only[b3,dV,gN] at C
 refine bX func96 ntmps96 H ?_;refine ap ?_;intro V W X;refine aU ?_;refine rC yS rfl rfl rfl ak (Bk d fi) ?_;refine (aE) (λi=>ap ?_) λi=>aU ?_;exact bT ⟨s,ba,z,o⟩ ⟨x,rfl,by rw[aB i],by rw[aB i,eZ]⟩;refine bK (l0:=fq j ⟨s,ba,z,o⟩) ah (λe b=>Fs e j ⟨s,ba,z,o⟩ (λf t=>r f<|b.later ah t) (b.cb ah) x g h y A bL) λ⟨D,E,F,G⟩ K=>?_;obtain⟨L,k,m,p⟩:=K;dsimp only at k m p;subst k m
 refine aH ?_;refine bK (l0:=fq j ⟨D,E,F,G⟩) ah (λe b=>Ft e j ⟨D,E,F,G⟩ (λf t=>r f<|b.later ah t) (b.cb ah) L d B<|by rw[p,b3];omega) λ⟨u,v,q,M⟩ N=>?_;refine aA ?_;obtain⟨O,k,m,w⟩:=N;dsimp only at k m w;subst k m
 refine bN [0,1,2,3,4] 2 [[(5,false,[6,7]),(8,true,[])]] ?_;refine aU ?_;refine bd (hargs:=rfl) (λe b=>qJ e (r e b.ext) _ aa)<|av ?_;refine aO rfl (λP Q=>(eb rfl rfl rfl cg aJ)) ?_;refine aO rfl (λP Q=>(eb rfl rfl rfl cg aJ))<|aA ?_;refine bK (l0:=[aG u [.pointer v,q.val] 104,q.aD]) ah (hargs:=rfl) (λe b=>o2 e (b.cb ah) (o:=0) (xs:=[.pointer v,q.val]) (ba:=v) (z:=q) rfl rfl O yv _<|by rw[w,p];simp only[b3,dV,gN];omega) λR S=>?_;refine a7 ?_;exact bT ⟨u,some ⟨u,0,none⟩,R,M⟩ ⟨.inr rfl,rfl,by rw[ai i],by rw[S,w,p,ai i];simp[pW]⟩
def aaT{L:Nat->Prop}{q:Option Addr}(s:Rd bW a L q g F C)(Za:g<=1000){d:Nat}(t:C[d]? = some o):
 ay 95 [.slice q g F,ad (d:Int)] a (gu (λk:Nat=>ad (k:Int)) (λk=>1<=k/\d+k<=g/\(∀b,b<k-> ∀e,C[d+b]? = some e->p2 o e)/\ ∀e,C[d+k]? = some e-> ¬p2 o e) a):=by
 have Zb:=s.len
 have Zc:=(cH.1 t).1
 obtain⟨Zd,M,Ze,N⟩:=s.at_ t;obtain⟨u,v,w,r⟩:=o;refine ba func95 ntmps95 ?_;refine b6 ?_;refine cd (ι:=Nat) (λi=>[(0,.slice q g F),(1,ad (d:Int)),(5,ad (i:Int))]) (λ_=>ag a [] []) (λi=>1<=i/\d+i<=g/\ ∀b,b<i-> ∀e,C[d+b]? = some e->p2 ⟨u,v,w,r⟩ e) (λi=>g - i) ?_ ?_
 ·exact λZf O=>⟨1,⟨cC 1,aa,λb l e f=>by (obtain rfl:b=0:=by omega);rw[sJ,t] at f;cases f;exact⟨Iff.rfl,λ_=>rfl⟩⟩,(ed rfl rfl rfl),O⟩
 ·rintro i ⟨j,x,m⟩
  refine (aE) (λP=>?_) λP=>cn ?_
  ·obtain⟨⟨I,J,K,y⟩,f⟩ : ∃e,C[d+i]? = some e:=⟨_,bD aa⟩
   obtain⟨Zg,Q,Zh,R⟩:=s.at_ f;refine a7 ?_;refine gA (λn:Nat × Nat=>[(0,.slice q g F),(1,ad (d:Int)),(5,ad (i:Int)),(6,ptr n.1),(7,ptr n.2)]) (λn=>ag a [] [aG n.1 (aL.enc ⟨u,v,w,r⟩) 81,aG n.2 (aL.enc ⟨I,J,K,y⟩) 81]) (λ_=>True) ?_ ?_
   ·refine fg [0,1,2,3,4,5,6,7,8,9] 4 [[(10,false,[]),(11,false,[]),(12,false,[]),(13,true,[])],[(11,false,[]),(10,false,[]),(12,false,[]),(13,true,[])]] (_) mixed ak (λ_ S=>S.drew) (λ_ h=>(show ag a [] [] _ from h.aF aP.nil))<|aA ?_
    refine aO rfl (λz p=>(bE (q:=d) dj rfl rfl rfl M rfl aa aJ)) ?_;refine aO rfl (λz p=>(cE (vs:=aL.enc ⟨u,v,w,r⟩) gh rfl rfl rfl (λT j b A l=>by subst j;exact p.ch (N b A l) au) aJ)) ?_;refine a7 ?_;refine aO rfl (λz p=>(bE (q:=d+i) dj rfl rfl rfl Q aa aa aJ)) ?_;refine aO rfl (λz p=>(cE (vs:=aL.enc ⟨I,J,K,y⟩) gh rfl rfl rfl (λT j b A l=>by subst j;exact p.ch (R b A l) au) aJ)) ?_;refine av ?_;focus (refine wO ?_ ?_;refine av ?_;intro B U V;refine cv (λ_=>True) (λ_ h=> .inr<|h.rem bH.head) (λ_ h=>bh)<|ap ?_;intro D W X;rotate_left;refine av ?_;intro D W X;refine cv (λ_=>True) (λ_ h=> .inr<|h.rem bH.head) (λ_ h=>bh)<|ap ?_;intro B U V;all_goals (refine cv (λ_=>True) (λ_ h=> .inr ⟨.inr<|(h.rem bH.head).rem bH.head,dC⟩) (λ_ h=>bh)<|ap ?_;refine cv (λ_=>True) (λ_ h=> .inr ⟨.inr ⟨.inr<|(h.rem bH.head).rem bH.head,dC⟩,dC⟩) (λ_ h=>bh)<|aH ?_;exact dN (B,D) bh b5 λ_ h=>h.aF ah))
   rintro⟨B,D⟩ _;refine be ?_;refine F2 underlying4 rfl rfl rfl<|av ?_;refine bl 31 rfl (λY=>fa ?_) λY=>aY ?_
   ·refine rs rfl<|ru<|rr<|mC<|lx<|ly<|aH ?_
    exact eN i ⟨j,x,m,λe c E=>by rw[f] at c;cases c;unfold p2 at E;simp_all⟩
   ·refine bl 35 rfl (λG=>?_) λG=>?_
    ·have Z:=bg G
     refine a6 ?_;refine yt yS rfl rfl rfl ak (Bk r y)<|aI ?_;refine cD rfl (λH=>?_) λH=>?_
     ·simp only[cq] at H
      refine aA ?_;refine rs rfl<|ru<|rr<|mC<|lx<|ly<|aH ?_;exact eN i ⟨j,x,m,λe c E=>by rw[f] at c;cases c;unfold p2 at E;simp_all⟩
     ·simp only[cq] at H
      refine aY ?_;exact bv (i+1) ⟨aa,aa,λb l e c=>by (rcases fd b i with h | h;exact m b h e c;obtain rfl:b=i:=aa;rw[f] at c;cases c;unfold p2;constructor <;> simp_all)⟩ aa b5 λ_ h=>h.aF aP.nil
    ·have Z:=bm G
     refine fT ?_;exact bv (i+1) ⟨aa,aa,λb l e c=>by (rcases fd b i with h | h;exact m b h e c;obtain rfl:b=i:=aa;rw[f] at c;cases c;unfold p2;constructor <;> simp_all)⟩ aa b5 λ_ h=>h.aF aP.nil
  ·exact eN i ⟨j,x,m,λe c=>by rw[hK aa] at c;cases c⟩
