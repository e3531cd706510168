/- part 38 of the proof -/
import Derived.Test.YtnfmgboendlmaaaGreatDoorQ37
set_option linter.all false
namespace Go.Proofs.YtnfmgboendlmaaaGreatDoor.Mq
open RowKit Tryz
variable [Inhabited vP]{c:Int}{F:Int × Int->List UInt8}{z:List Chunk}{y:List Nat}{D:List aL}{j:List bq}{u:List gn}{a:Nat}{B:Option Addr}{q:Type}{A:TypeId}{x:World}{C:aL}{v:bA}{H:bG}{h:cm}{I:gd}{m:gn}(f:Array MapEntry)(E:List bq)(G:List UInt8 × Bool × Int)(d:World)(t:Nat)(e:cm)(l:gn)(o:List gn)(k:Int)
def cm.lp(s:cm):List gn:=no s.st.abs ⟨s.rows,0⟩
def dn.lp{s:cm}(d:dn s a c):s.lp.length<=10001/\ ∀b∈s.lp,sn b:=by
 have e:=d.st.len
 have f:=d.ring
 have g:=d.small
 refine⟨?_,W0 d.st.wf ⟨⟨?_,?_⟩,?_,?_⟩⟩;rw[cm.lp,Lt];simp only[dp.abs,c8];omega
 simp only[cm.rows];omega
 simp only[cm.rows];omega
 exact oj 0;exact (by decide: (0 :Int)<=4398046511104)
section
variable {w:World}{s:cm}
def Mi(a: (aZ<|dl s).pred w):s.st.aq.pred w:=E4 a _ au
def Mj(a: (aZ<|dl s).pred w): (fp s.st.A s.st.c s.st.l).pred w:=E4 a _ au
def Mk(a: (aZ<|dl s).pred w): (fQ s.st.l).pred w:=E4 a _ au
end
def E7(w:World)(s:cm)(f:dn s a c)(d: (aZ<|dl s).pred w):ay 23 [ptr s.g] w (aX (λb:tX=>b.val) [] (λb=>[b.aD]) (λb=>b.l=s.lp) w):=by
 have i:=og d
 have n:=f.st.len
 refine ba func23 ntmps23 ?_;refine fa ?_;refine bN [0,1,2,3,4] 2 [[(5,false,[]),(6,true,[7])]] ?_;refine ap ?_;refine aO rfl (λo j=>(bb Ga rfl rfl (λp k=>by subst k;exact j.cc i (by (simp;done)) rfl) aJ)) ?_;refine ap ?_;refine bd (λh e=>Bd h s f<|Chunk.df _ d e.ext) ?_;refine ap ?_;refine bK (l0:=[]) aP.nil (hargs:=rfl) (λh e=>LP h s.st (Chunk.df _ (Mi d) e.ext) (Chunk.df _ (Mj d) e.ext) (Chunk.df _ (Mk d) e.ext) f.st.bV aa ⟨s.rows,0⟩) λb m=>aU ?_;exact jG b m
def wg(w:World)(s:cm)(f:dn s a c)(b: (aZ<|dl s).pred w)(id:Int):ay 68 [ptr s.g,.int .u64 id] w (Pure (tZ<|lU s.st.abs id ⟨s.rows,0⟩) w):=by
 have k:=og b
 have p:=f.st.len
 have l: ∃d:gn,∃i:Bool,tZ (lU s.st.abs id ⟨s.rows,0⟩)= .tuple #[.agg d.enc.toArray,.bool i]:=by
  cases lU s.st.abs id ⟨s.rows,0⟩ with
  | none=>exact⟨_,_,rfl⟩
  | some d=>exact⟨d,true,rfl⟩
 obtain⟨d,i,j⟩:=l;rw[j];refine ba func68 ntmps68 ?_;refine ap ?_;intro q r t;refine cZ ?_;refine bN [0,1,2,3,4,5] 3 [[(6,false,[]),(7,false,[8,9]),(10,true,[11])]] ?_;refine ap ?_;refine aO rfl (λu m=>(bb Ga rfl rfl (λv n=>by subst n;exact m.cc k (by (simp;done)) rfl) aJ)) ?_;refine a7 ?_;refine bd (λh e=>Bd h s f<|Chunk.df _ b e.ext) ?_;refine ap ?_;refine bd (hargs:=rfl) (λh e=>j▸XH h s.st (Chunk.df _ (Mi b) e.ext) (Chunk.df _ (Mj b) e.ext) (Chunk.df _ (Mk b) e.ext) f.st.bV aa id ⟨s.rows,0⟩) ?_;refine aI ?_;refine fR (vs:=d.enc) ia rfl rfl (bC.whole cJ bo) rfl (aV.cons rfl<|aV.cons rfl<|aV.cons rfl<|aV.cons rfl<|aV.cons rfl<|aV.cons rfl<|aV.cons rfl<|hg rfl rfl rfl rfl rfl rfl rfl rfl rfl rfl) (by exact ej rfl)<|aH ?_;refine iy results68 (c_.fx ia rfl bw rfl rfl) (c_.tmp rfl) λx o=>?_;exact⟨rfl,o.ext⟩
def ub :Option iH:=if foldI f l.id=0 then none else some ⟨if l.output.dL>0 then l.output.row+1 else l.output.row,l.done.row,l.id⟩
def uc :List iH:=o.filterMap<|ub f
def YA(b:u[a]? = some m):uc f (u.take<|a+1)=uc f (u.take a)++(ub f m).toList:=by
 unfold uc;rw[hA,b,List.filterMap_append];cases c:ub f m <;> simp[c]
def Ml : (uc f o).length<=o.length:=List.length_filterMap_le _ _
def cm.fds(s:cm):List iH:=jw s.rows 0<|uc s.es s.lp
def YB(w:World)(s:cm){y:Int}(k:dn s a y)(m: (aZ<|dl s).pred w):ay 152 [ptr s.g] w (aX (λb:pZ=>b.val) [] (λb=>[b.aD]) (λb=>b.l=s.fds) w):=by
 have z:=og m
 have x:=k.lp
 refine ba func152 ntmps152 ?_;refine cZ ?_;refine bK (l0:=[]) aP.nil (λf h=>E7 f s k<|Chunk.df _ m h.ext) λb q=>?_;refine a7 ?_;have Q:b.l.length<=10001:=q▸x.1
 refine dh (H':=ag w [] [pZ.aD ⟨none,0,[]⟩,b.aD]) (av ?_) (Sub.refl _) λR B=>B.e4 318 oe;refine cd (ι:=Nat × pZ) (λd=>[(0,ptr s.g),(3,d.2.val),(8,b.val),(9,ad (b.l.length:Int)),(10,ad (d.1 :Int))]) (λd=>ag w [] [d.2.aD,b.aD]) (λd=>d.1<=b.l.length/\d.2.l=uc s.es (b.l.take d.1)) (λd=>b.l.length - d.1) ?_ ?_;exact λS C=>⟨(0,⟨none,0,[]⟩),⟨b4 _,rfl⟩,(en rfl rfl rfl rfl rfl),C.aF ah⟩
 rintro⟨i,e⟩ ⟨D,n⟩;dsimp only at D n ⊢
 have T:e.l.length<=i:=by
  have:=Ml s.es<|b.l.take i
  rw[dR] at this
  rw[n];omega
 refine (aE) (λE=>?_) λE=>aY ?_;obtain⟨v,r⟩ : ∃v,b.l[i]? = some v:=⟨_,bD aa⟩;have U:=(x.2 v<|q▸cR r).output
 have o:=YA s.es r
 rw[<-n] at o
 refine aH ?_;refine ik (E:=lo) cz oC rfl rfl rfl bo aa λV F=>cE (vs:=v.enc) ia rfl rfl rfl (λW G H I J=>G.hG (E:=lo) cz F r H I J)<|av ?_;intro X Y Z;refine fR (vs:=v.enc) ia rfl rfl (bC.whole cJ bo) rfl (aV.cons rfl<|aV.cons rfl<|aV.cons rfl<|aV.cons rfl<|aV.cons rfl<|aV.cons rfl<|aV.cons rfl<|hg rfl rfl rfl rfl rfl rfl rfl rfl rfl rfl) (by exact ej rfl)<|a7 ?_;refine bN [0,1,2,3,4,5] 1 [[(6,false,[7])]] ?_;refine ap ?_;refine aO rfl (λZa t=>(bb NU rfl rfl (λK u=>by subst u;exact t.cc z (by (simp;done)) rfl) aJ)) ?_;refine a7 ?_;refine Yw (es:=s.es) (ck:=s.cV) (k:=v.id) underlying87 underlying63 bY k.mp rfl rfl rfl (λK u=>by exact Chunk.df _ (Yz m) u.ext) ?_;refine (aE) (λp=>aY ?_) λp=>?_;exact bv (i+1,e) ⟨aa,by dsimp only;rw[o,ub,aB p];simp⟩ bL b5 λ_ j=>j.aF ah;refine (aE) (λL=>dO ?_) λL=>bP ?_;refine ef (E:=oe) ⟨_,_,_⟩ ql rfl rfl rfl rfl rfl λM N O=>fu (E:=oe) ql rfl rfl rfl bx (λ_ _=>fs) cg cg λZb Zc=>aY ?_;exact bv (i+1,⟨_,_,e.l++[⟨_,v.done.row,v.id⟩]⟩) ⟨aa,by dsimp only;rw[o,ub,ai p];rw[aB aa];rfl⟩ bL (en rfl rfl rfl rfl rfl) λ_ j=>j.aF ah;refine ef (E:=oe) ⟨_,_,_⟩ ql rfl rfl rfl rfl rfl λM N O=>fu (E:=oe) ql rfl rfl rfl bx (λ_ _=>fs) cg cg λZd Ze=>aY ?_;exact bv (i+1,⟨_,_,e.l++[⟨_,v.done.row,v.id⟩]⟩) ⟨aa,by dsimp only;rw[o,ub,ai p];rw[ai aa];rfl⟩ bL (en rfl rfl rfl rfl rfl) λ_ j=>j.aF ah;refine bd (λf h=>E5 f s k<|Chunk.df _ m h.ext) ?_;refine av ?_;refine bK (l0:=[]) aP.nil (hargs:=rfl) (λf h=>XP f _ e.A e.l.length e.c e.l (hF<|h.has (c:=e.aD) bw) aa s.rows) λP t=>aI ?_;exact jG P (by rw[t,n,eT aa,q];rfl)
def cm.oh :List iI:=o6 e.rows 0 e.fds
def Mm: ∀(c:List iI)(b a:Int),i7 b c a->b<=a/\ ∀x∈c,b<=x.row/\0<=x.hid/\x.row+max 1 x.hid<=a
 | [],b,a,d=>⟨by unfold i7 at d;omega,by simp⟩
 | x::c,b,a,d=>by
  obtain⟨i,j,k,f⟩:=d;obtain⟨l,g⟩:=Mm c _ a f;refine⟨aa,λh e=>?_⟩;rcases eJ.1 e with rfl | e
  omega
  have:=g h e
  omega
def dn.rw(b:dn h a c):0<=h.rows/\h.rows<=200:=by
 have d:=b.ring
 have e:=b.small
 unfold cm.rows;omega
def dn.ji(f:dn h a c): ∀d∈h.fds,d.id≠0:=λd g=>by
 obtain⟨l,i,j,_⟩:=EX _ _ _ d g;obtain⟨m,_,b⟩:=List.mem_filterMap.1 i;unfold ub at b
 split at b
 cases b
 rename_i k;injection b with b
 subst b;intro e;rw[j] at e
 exact k (by dsimp only at e;rw[e];exact Yv f.mp)
def dn.right :ez h.rows 0 h.fds=true:=EW _ _ _
def dn.i7(b:dn h a c):i7 0 h.oh h.rows:=LQ _ _ _ b.rw.1 dn.right b.ji
def E8(c:Int): ∀(a:List iH)(d:Int),(jw c d a).length<=a.length
 | [],_=>cC _
 | f::a,d=>by
  unfold jw;split
  have:=E8 c a<|min f.b c
  simp only[dV];omega
  have:=E8 c a d
  simp only[dV];omega
def dn.YC(b:dn h a c):h.fds.length<=10001:=by
 have d:=E8 h.rows (uc h.es h.lp) 0
 have e:=Ml h.es h.lp
 have f:=b.lp.1
 unfold cm.fds;omega
def dn.Bf(b:dn h a c):h.oh.length<=200:=by
 have d:=LR h.rows h.fds 0 b.rw.1 dn.right
 have e:=b.rw
 unfold cm.oh;omega
def dn.YD(b:dn h a c): ∀x∈h.oh,v8 x:=λx d=>by
 have e:=(Mm _ _ _ b.i7).2 x d
 have f:=b.rw
 unfold v8;omega
def E9{n:Int}(j:dn e a n)(k: (aZ<|dl e).pred d):ay 82 [ptr e.g] d (aX (λb:ns=>b.val) [] (λb=>[b.aD]) (λb=>b.l=e.oh) d):=by
 have p:=og k
 have q:=j.rw
 have r:=j.YC
 refine ba func82 ntmps82 ?_;refine gQ ?_;refine bd (λf h=>E5 f e j<|Chunk.df _ k h.ext) ?_;refine av ?_;refine bK (l0:=[]) aP.nil (λf h=>YB f e j<|Chunk.df _ k h.ext) λi m=>?_;refine bK (l0:=[]) aP.nil (hargs:=rfl) (λf h=>XS f _ i.A i.l.length i.c i.l (hF<|h.has (c:=i.aD) bw) (by rw[m];omega) e.rows aa<|by rw[m];exact dn.right) λb o=>?_;refine dO ?_;exact jG b (by rw[o,m];rfl)
abbrev cl :Chunk:=aZ<|dl e
def E_(d:eP v): (∀a∈v.az.r.rows,a.1.length<=1000000)/\ ∀a∈b2 v.az.s.l,a.1.length<=1000000:=by
 have b:dF v.az.abs:=d.ok.bz
 refine⟨λa c=>?_,λa c=>?_⟩;have:=(b.oM a c).1
 have:=b.al
 omega
 have:=(b.wide a c).1
 have:=b.al
 omega
def Mn(w:World)(e:cm)(J:dn e a c)(H:bc w [cl e]):ay 71 [ptr e.g] w (aX (λj:dz=>j.val) [cl e] (λj=>[cl e,j.aD,j.cw]) (λj=>b2 j.l=e.az.r.rows++b2 e.az.s.l) w):=by
 have M: (aZ<|dl e).pred w:=H.all _ au
 have u:=J.T.first
 have v:=E_ u
 have I:=u.small
 have t: ∀b,(ag w (aK [cl e]) [cl e] b)->(aZ<|dl e).pred b:=λb d=>d.all _ au
 refine bX func71 ntmps71 H ?_;obtain⟨x,y,z,k,f,⟨h,i,K,m,n,o,p,q⟩,A,B,C,D,E⟩:=e;cases K
 refine aY ?_;refine bd (λb d=>ym b _<|t b d) ?_;refine bd (λb d=>pK b _ _ _<|sq<|t b d) ?_;refine bd (λb d=>kc b _<|yl<|t b d) ?_;refine la (lc:=dl ⟨x,y,z,k,f,⟨h,i,false,m,n,o,p,q⟩,A,B,C,D,E⟩) bx<| la (lc:=fl f k f.g ⟨h,i,false,m,n,o,p,q⟩) c6<| la (lc:=a8 h) pm<| (dg) (xL · h.az · u.g.r v.1 v.2 (by have:h.az.s.l.length<=30:=I.1;omega)) λj F=>?_
 refine aI ?_;exact λL G=>aX.cf j F rfl<|(((G.close (l:=a8 h) ah).close (l:=fl f k f.g ⟨h,i,false,m,n,o,p,q⟩) ah).close (l:=dl ⟨x,y,z,k,f,⟨h,i,false,m,n,o,p,q⟩,A,B,C,D,E⟩) ah).aF ah
 refine aY ?_;refine bd (λb d=>ym b _<|t b d) ?_;refine bd (λb d=>pK b _ _ _<|sq<|t b d) ?_;refine bd (λb d=>kc b _<|yl<|t b d) ?_;refine la (lc:=dl ⟨x,y,z,k,f,⟨h,i,true,m,n,o,p,q⟩,A,B,C,D,E⟩) bx<| la (lc:=fl f k f.g ⟨h,i,true,m,n,o,p,q⟩) c6<| la (lc:=a8 i) qn<| (dg) (xL · i.az · u.g.r v.1 v.2 (by have:i.az.s.l.length<=30:=I.1;omega)) λj F=>?_
 refine aI ?_;exact λL G=>aX.cf j F rfl<|(((G.close (l:=a8 i) ah).close (l:=fl f k f.g ⟨h,i,true,m,n,o,p,q⟩) ah).close (l:=dl ⟨x,y,z,k,f,⟨h,i,true,m,n,o,p,q⟩,A,B,C,D,E⟩) ah).aF ah
def YE{n:Int}(j:dn e a n)(k: (aZ<|dl e).pred d):ay 34 [ptr e.g] d (aX (λb:ns × Int=> .tuple #[b.1.val,ad b.2]) [] (λb=>[b.1.aD]) (λb=>(b.1.l.length:Int)=min (e.oh.length:Int) (e.az.s.l.length:Int)/\0<=b.2/\b.2+b.1.l.length<=e.oh.length/\ ∀o∈b.1.l,o∈e.oh) d):=by
 have t:=og k
 have u:=j.Bf
 have v:=j.small
 refine ba func34 ntmps34 ?_;refine fT ?_;refine bK (l0:=[]) aP.nil (λh i=>E9 h e j<|Chunk.df _ k i.ext) λf m=>?_;refine av ?_;have w:f.l.length=e.oh.length:=a_ List.length m
 refine aU ?_;refine bK (l0:=[]) aP.nil (hargs:=rfl) (λh i=>E6 h e j (Chunk.df _ k i.ext) f.A f.l.length f.c aa) λp q=>av ?_;refine bd (λh i=>Mh h e<|Chunk.df _ k i.ext) ?_;refine bK (l0:=[]) aP.nil (hargs:=rfl) (λh i=>XN h _ f.A f.l.length f.c f.l (hF<|i.has (c:=f.aD) bw) aa p (e.az.s.l.length:Int) (by have:=q.2;unfold cm.most at this;omega) aa) λb r=>?_;refine aY ?_;exact jG b (by rw[<-m];exact r)
def yn(b:Nat)(c:Int)(d:q->Value)(f:World):Ending->World->Prop:=aX (λa:q × cm=>d a.1) [cl e] (λa=>[cl a.2]) (λa=>a.2.g=e.g/\dn a.2 b c) f
def dn.Mo{N:Int}(b:dn h a N){t:Int}(c:Bool)(d:0<=t/\t<=1000000):dn { h with top:=t,dP:=c } a N:=⟨b.par,b.T,b.st,b.dv,b.mp,d⟩
def Mp(h:dn e a c)(n:bc d [cl e])(i:Option Addr)(b j:Nat)(m:b<=1000000)(f:Int):ay 83 [ptr e.g,.slice i b j,ad f] d (yn e a c (λ_:Unit=> .tuple #[]) d):=by
 have t:=h.small
 have u:0<=e.most b/\e.most b<=1000000:=by unfold cm.most;omega
 have o:=h.Mo e.dP (t:=max 0<|min f<|e.most b) aa
 refine calls (n:=29) func83 rfl ntmps83 rfl ?_;refine dh (H':=ag d (aK [cl e])<|dl e) ?_ (Sub.refl _) (λp q=>by have r:=(n.start p q).open (l:=dl e) bx;rwa [eZ] at r);refine aH ?_;refine bd (λk l=>Be k e h l.all i b j m)<|aY ?_;refine bN [0,1,2,3,4,5,6,7] 2 [[(8,false,[9,10,11,12]),(13,true,[])]] ?_;refine be ?_;refine bd (λk l=>Be k { e with top:=max 0 (min f<|e.most b) } o l.all i b j m)<|b6 ?_;exact λv s=>aX.cf ((),{ e with top:=max 0<|min f<|e.most b,dP:=_ }) ⟨rfl,h.Mo _ aa⟩ rfl<|s.close (l:=dl { e with top:=max 0<|min f<|e.most b,dP:=_ }) ah
def YF{b:b1 q}{d:World}{e:List Chunk}{L:List q}{c0:Chunk}(i:ag x y z d)(j:bH z (aD A b B a L) e)(k:Has e c0):Rd b d (λc=>c∉aK [c0]) B L.length a L:=by
 have f:=i.perm j.perm
 have g:=f.nodup
 rw[gy,gO] at g
 obtain⟨r,s,l,m⟩:=Rd.ho (E:=b) (show d.ownsRow 0 A b.ax (.slice B L.length a) L.length (b.all L) from f.has Has.head) rfl;injection l with n _ o
 subst n o;refine m.d8 λc p h=>?_;rw[show aK [c0]=c0.cT by simp[aK]] at h
 exact g.2.2 c (kx.2 p) c (er.2 ⟨c0,k.mem,h⟩) rfl
def YG{k:Int}(f:dn e a k)(n:bc d [cl e])(o:Int):ay 28 [ptr e.g,ad o] d (yn e a k (λ_:Unit=> .tuple #[]) d):=by
 have t:=f.small
 have u:=f.Bf
 refine bX func28 ntmps28 n ?_;refine be ?_;refine bK (l0:=[]) aP.nil (λh i=>E9 h e f<|i.has bw) λb p=>av ?_;have v:b.l.length=e.oh.length:=a_ List.length p
 refine aU ?_;refine bK (l0:=[]) aP.nil (λh i=>E6 h e f (i.has cz) b.A b.l.length b.c aa) λm q=>ap ?_;have w:0<=m/\m<=1000000:=by unfold cm.most at q;omega
 refine av ?_;refine bK (ι:=Unit × cm) (v:=λ_=> .tuple #[]) (l':=λj=>[cl j.2]) (ok:=λj=>j.2.g=e.g/\dn j.2 a k) (l0:=[cl e]) ah (hargs:=rfl) (λh i=>Mp h e f (i.cb ah) b.A b.l.length b.c aa _) λr s=>aA ?_;exact bT r s
def dn.high(b:dn h a c):1<=h.az.s.l.length:=by
 have d:dF h.az.abs:=b.T.first.ok.bz
 have:=d.rows.1
 simpa [bQ.abs] using this
def YH{p:Int}(f:dn e a p)(x:bc d [cl e])(j:Int)(y: -9223372036854775808<=j/\j<=9223372036854775807)(q:Option Addr)(m c:Nat)(u:List Int)(z:Rd ct d (λj=>j∉aK [cl e]) q m c u)(B:m<=100000):ay 80 [ptr e.g,ad j,.slice q m c] d (yn e a p (λk:Int=>ad k) d):=by
 have O:=f.small
 have P:=f.Bf
 have Q:=f.high
 refine bX func80 ntmps80 x ?_;refine aY ?_;refine bK (l0:=[]) aP.nil (λh i=>E9 h e f<|i.has bw) λb w=>av ?_;have R:b.l.length=e.oh.length:=a_ List.length w
 refine a6 ?_;refine bl 17 rfl (λr=>?_) λr=>?_;have C:=bg r
 refine cZ ?_;exact bT (5,e) ⟨rfl,f⟩;have C:=bm r
 refine (aE) (λD=>aY ?_) λD=>aU ?_;exact bT (5,e) ⟨rfl,f⟩;refine bK (l0:=[]) aP.nil (λh i=>E6 h e f (i.has cz) b.A b.l.length b.c aa) λn E=>?_;have S:0<=n/\n<b.l.length:=by unfold cm.most at E;omega
 obtain⟨o,F⟩ : ∃o:Nat,n=(o:Int):=⟨n.toNat,aa⟩;obtain⟨v,G⟩ : ∃v,b.l[o]? = some v:=⟨_,bD aa⟩;refine ik (E:=mz) (q:=o) bw qk rfl rfl rfl F aa λT H=>av ?_;refine bb bY rfl rfl (λU I=>I.hG (E:=mz) bw H G 0 _ rfl)<|aY ?_;refine bK (l0:=[]) aP.nil (λh i=>X6 h _ q m c u (z.ext i.ext λ_ J=>J) B _ j y) λK _=>?_;refine aU ?_;refine bK (l0:=[]) aP.nil (hargs:=rfl) (λh i=>XM h _ b.A b.l.length b.c b.l (hF<|i.has (c:=b.aD) bw) (w▸f.YD) aa K) λ⟨V,W⟩ X=>?_;refine cZ ?_;refine bl 41 rfl (λs=>?_) λs=>?_;have L:=bg s
 refine cZ ?_;exact bT (5,e) ⟨rfl,f⟩;have L:=bm s
 refine aU ?_;refine cD rfl (λt=>?_) λt=>?_;simp only[cq] at t
 refine aY ?_;exact bT (5,e) ⟨rfl,f⟩;simp only[cq] at t
 refine aU ?_;refine bK (ι:=Unit × cm) (v:=λ_=> .tuple #[]) (l':=λk=>[cl k.2]) (ok:=λk=>k.2.g=e.g/\dn k.2 a p) (l0:=[cl e]) ah (hargs:=rfl) (λh i=>Mp h e f (i.cb ah) b.A b.l.length b.c aa _) λM N=>a6 ?_;exact bT (0,M.2) N
def YI{m:Int}(n:dn e a m)(p:bc d [cl e])(k o:Int)(q: -9223372036854775808<=k/\k<=9223372036854775807):ay 27 [ptr e.g,ad k,ad o] d (yn e a m (λb:Int=>ad b) d):=by
 have r:=n.lp.1
 refine bX func27 ntmps27 p ?_;refine be ?_;refine bK (l0:=[]) aP.nil (λi f=>E7 i e n<|f.has bw) λh s=>?_;have v:h.l.length<=10001:=by rw[s];exact r
 refine av ?_;refine bK (l0:=[]) aP.nil (hargs:=rfl) (λi f=>X5 i _ h.A h.l.length h.c h.l (hF<|f.has (c:=h.aD) bw) aa o) λj w=>bK (ι:=Int × cm) (v:=λb=>ad b.1) (l':=λb=>[cl b.2]) (ok:=λb=>b.2.g=e.g/\dn b.2 a m) (l0:=[cl e]) ah (λi f=>YH i e n (f.cb ah) k q j.A j.l.length j.c j.l (YF f (c0:=cl e) (L:=j.l) bx cz) aa) λt u=>aI ?_;exact bT t u
def YJ(b:dn e a c)(t:bc d [cl e])(id:Int)(q:Bool):ay 26 [ptr e.g,.int .u64 id,.bool q] d (yn e a c (λu:Int=>ad u) d):=by
 have v: ∃i:gn,∃r:Bool,tZ (lU e.st.abs id ⟨e.rows,0⟩)= .tuple #[.agg i.enc.toArray,.bool r]:=by
  cases lU e.st.abs id ⟨e.rows,0⟩ with
  | none=>exact⟨_,_,rfl⟩
  | some i=>exact⟨i,true,rfl⟩
 obtain⟨i,r,s⟩:=v;refine bX func26 ntmps26 t ?_;cases q
 ·refine be ?_
  refine bd (λl m=>s▸wg l e b (m.has bw) id) ?_;refine a7 ?_;intro w x y;refine fR (vs:=i.enc) ia rfl rfl (bC.whole cJ bo) rfl (aV.cons rfl<|aV.cons rfl<|aV.cons rfl<|aV.cons rfl<|aV.cons rfl<|aV.cons rfl<|aV.cons rfl<|hg rfl rfl rfl rfl rfl rfl rfl rfl rfl rfl) (by exact ej rfl)<|aY ?_;refine bl 17 rfl (λn=>cZ ?_) λn=>?_
  ·exact bT (5,e) ⟨rfl,b⟩
  ·refine (aE) (λo=>aY ?_) λo=>aY ?_
   ·exact bT (5,e) ⟨rfl,b⟩
   ·focus (refine cD rfl (λj=>?_) λj=>?_;refine uI (lc:=dl e) c6<|aH ?_;refine Mf underlying87 underlying63 b.mp bR rfl rfl rfl (λ_ _=>j5) λf h k=>?_;rotate_left;(simp only[cq] at j);refine uI (lc:=dl e) c6<|aH ?_;refine Mg underlying87 underlying63 b.mp rfl rfl (λ_ _=>j5) λf h k=>?_;all_goals (refine a6 ?_;intro z p;exact aX.cf (0,{ e with es:=f,cV:=h }) ⟨rfl,b.par,b.T,b.st,b.dv,k,b.top⟩ rfl<|(p.close (l:=dl { e with es:=f,cV:=h }) ah).aF ah))
 ·refine be ?_
  refine bd (λl m=>s▸wg l e b (m.has bw) id) ?_;refine a7 ?_;intro w x y;refine fR (vs:=i.enc) ia rfl rfl (bC.whole cJ bo) rfl (aV.cons rfl<|aV.cons rfl<|aV.cons rfl<|aV.cons rfl<|aV.cons rfl<|aV.cons rfl<|aV.cons rfl<|hg rfl rfl rfl rfl rfl rfl rfl rfl rfl rfl) (by exact ej rfl)<|aY ?_;refine bl 17 rfl (λn=>cZ ?_) λn=>?_
  ·exact bT (5,e) ⟨rfl,b⟩
  ·refine (aE) (λo=>aY ?_) λo=>aY ?_
   ·exact bT (5,e) ⟨rfl,b⟩
   ·focus (refine cD rfl (λj=>?_) λj=>?_;(simp only[cq] at j);refine uI (lc:=dl e) c6<|aH ?_;refine Mf underlying87 underlying63 b.mp bR rfl rfl rfl (λ_ _=>j5) λf h k=>?_;rotate_left;refine uI (lc:=dl e) c6<|aH ?_;refine Mg underlying87 underlying63 b.mp rfl rfl (λ_ _=>j5) λf h k=>?_;all_goals (refine a6 ?_;intro z p;exact aX.cf (0,{ e with es:=f,cV:=h }) ⟨rfl,b.par,b.T,b.st,b.dv,k,b.top⟩ rfl<|(p.close (l:=dl { e with es:=f,cV:=h }) ah).aF ah))
def YK(a:C.more.length<=32): (qu C).length<=36:=by
 unfold qu;split
 simp
 split
 simp
 have:=uP C.r
 rw[b3];omega
def Mr(a: ∀e∈D,e.more.length<=32)(b:Nat)(c:bG)(d:Nat): ∀k,(jI D b c d k).length<=36*k
 | 0=>by simp[jI]
 | k+1=>by
  have h:=Mr a b c d k
  rw[jI,b3];split
  simp only[gN];omega
  cases f:D[k]? with
  | none=>simp only[gN];omega
  | some g=>
   have:=YK<|a g<|cR f
   simp only[te];split
   omega
   simp only[gN];omega
abbrev yo :Prop:= ∀a∈E,a.1.length<=100/\ ∀b∈a.1,b.more.length<=32
def YL(b:yo j)(a:Nat): (mU j a).length<=100/\ ∀c∈mU j a,c.more.length<=32:=by
 unfold mU;cases d:j[a]? with
 | none=>simp
 | some e=>exact b e<|cR d
def Ms(e:yo j)(b a c:bG)(d:Nat): ∀k,(kI j b a c d k).length<=3600*(k - d)
 | 0=>by simp[kI]
 | k+1=>by
  have g:=Ms e b a c d k
  rw[kI,b3];split
  rename_i h;rw[Cd j b a c d k aa];simp
  have f:=YL e k
  have i:=Mr f.2 k c (hh b k).toNat (iC a k (mU j k).length).toNat
  have l: (iC a k (mU j k).length).toNat<=100:=by unfold iC;split <;> omega
  omega
def YM(f:yo j)(a d:bG)(b e:Nat)(h:b<e): (jJ j a d ((b:Int),(e:Int))).length<=3601*(e - b):=by
 have g: ∀c:Int,c.toNat<=e->(kI j a d (nK j a d (max (b:Int) a.row).toNat c.toNat) (max (b:Int) a.row).toNat c.toNat++(if c - 1<d.row then [10] else [])).length<=3601*(e - b):=λc i=>by
  have:=Ms f a d (nK j a d (max (b:Int) a.row).toNat c.toNat) (max (b:Int) a.row).toNat c.toNat
  rw[b3];have k: (if c - 1<d.row then ([10]:List UInt8) else []).length<=1:=by split <;> simp
  omega
 unfold jJ;split
 exact g _ (by dsimp only;split <;> omega);exact b4 _
def Mt{C:Nat}(f: ∀e b:Nat,e<b->(F ((e:Int),(b:Int))).length<=C*(b - e)): ∀(d:List (Int × Int))(c:Nat),uM j a c d->(d.flatMap F).length<=C*(a - c)
 | [],_,_=>by simp
 | p::d,c,g=>by
  obtain⟨b,rfl,h,k,_,_,i⟩:=Cc g;have l:=Mt f d b i
  have m:=f c b h
  rw[nA,b3];have n:C*(a - c)=C*(b - c)+C*(a - b):=by rw[<-Nat.mul_add];congr 1;omega
  omega
def Mu(c:yo j)(d:j.length<=200)(a b:bG): (ld j a b).length<=1000000:=by
 unfold ld;split
 have:=Mt (C:=3601) (YM c (wX a) b · · ·) _ _<|Cb j j.length
 omega
 simp
def cm.hJ :List bq:=e.az.r.rows++b2 e.az.s.l
def dn.hJ(d:dn h a c):yo h.hJ/\h.hJ.length<=200/\(h.hJ.length:Int)=h.rows:=by
 have e:dF h.az.abs:=d.T.first.ok.bz
 have g:=d.small
 have i:=d.ring
 have j:h.az.abs.al=h.az.al:=rfl
 refine⟨λf b=>?_,?_,?_⟩;rcases dq.1 b with b | b
 have:=e.oM f b
 exact⟨aa,this.2⟩;have:=e.wide f b
 exact⟨aa,this.2⟩;unfold cm.hJ;rw[b3,lE,c8];omega
 unfold cm.hJ cm.rows;rw[b3,lE,c8];omega
def ra :Option (bG × bG):=if k=0 then some (l.start,l.stop) else if k=1 then some (l.start,l.input) else if k=2 then some (l.input,l.output) else if k=3 then some (l.output,l.done) else none
def Fa:Option (bG × bG)->Value
 | some (a,b)=> .tuple #[fc a,fc b,.bool true]
 | none=> .tuple #[fc ⟨0,0⟩,fc ⟨0,0⟩,.bool false]
def Mv :ay 69 [.agg l.enc.toArray,ad k] d (Pure (Fa<|ra l k) d):=by
 unfold ra;refine ba func69 ntmps69 ?_;refine ap ?_;intro c j m;refine av ?_;intro n o p;refine av ?_;intro q r s;refine (aE) (λf=>av ?_) λf=>?_;refine fg [0,1,2,3] 2 [[(4,false,[]),(5,false,[6])]] (_) mixed ak (λ_ b=>b.drew) (λ_ a=>(show ag _ _ [aG c l.enc 67] _ from a.aF ah))<|aU ?_;refine cv (λ_=>True) (λ_ a=> .inr<|(a.rem bH.head).rem bH.head) (λ_ a=>bh)<|ap ?_;refine cv (λ_=>True) (λ_ a=> .inr ⟨.inr<|(a.rem bH.head).rem bH.head,dC⟩) (λ_ a=>bh)<|aU ?_;refine pe results69 (c_.fx fF rfl cz rfl rfl) (c_.fx fF rfl bw rfl rfl) (c_.tmp rfl) λe b=>?_
 (subst_vars;exact⟨rfl,b.ext⟩)
 refine (aE) (λg=>av ?_) λg=>?_;refine fg [0,1,2,3] 2 [[(4,false,[]),(5,false,[6])]] (_) mixed ak (λ_ b=>b.drew) (λ_ a=>(show ag _ _ [aG c l.enc 67] _ from a.aF ah))<|aU ?_;refine cv (λ_=>True) (λ_ a=> .inr<|(a.rem bH.head).rem bH.head) (λ_ a=>bh)<|ap ?_;refine cv (λ_=>True) (λ_ a=> .inr ⟨.inr<|(a.rem bH.head).rem bH.head,dC⟩) (λ_ a=>bh)<|aU ?_;refine pe results69 (c_.fx fF rfl cz rfl rfl) (c_.fx fF rfl bw rfl rfl) (c_.tmp rfl) λe b=>?_
 (subst_vars;exact⟨rfl,b.ext⟩)
 refine (aE) (λh=>av ?_) λh=>?_;refine fg [0,1,2,3] 2 [[(4,false,[]),(5,false,[6])]] (_) mixed ak (λ_ b=>b.drew) (λ_ a=>(show ag _ _ [aG c l.enc 67] _ from a.aF ah))<|aU ?_;refine cv (λ_=>True) (λ_ a=> .inr<|(a.rem bH.head).rem bH.head) (λ_ a=>bh)<|ap ?_;refine cv (λ_=>True) (λ_ a=> .inr ⟨.inr<|(a.rem bH.head).rem bH.head,dC⟩) (λ_ a=>bh)<|aU ?_;refine pe results69 (c_.fx fF rfl cz rfl rfl) (c_.fx fF rfl bw rfl rfl) (c_.tmp rfl) λe b=>?_
 (subst_vars;exact⟨rfl,b.ext⟩)
 refine (aE) (λi=>av ?_) λi=>cn ?_;refine fg [0,1,2,3] 2 [[(4,false,[]),(5,false,[6])]] (_) mixed ak (λ_ b=>b.drew) (λ_ a=>(show ag _ _ [aG c l.enc 67] _ from a.aF ah))<|aU ?_;refine cv (λ_=>True) (λ_ a=> .inr<|(a.rem bH.head).rem bH.head) (λ_ a=>bh)<|ap ?_;refine cv (λ_=>True) (λ_ a=> .inr ⟨.inr<|(a.rem bH.head).rem bH.head,dC⟩) (λ_ a=>bh)<|aU ?_;refine pe results69 (c_.fx fF rfl cz rfl rfl) (c_.fx fF rfl bw rfl rfl) (c_.tmp rfl) λe b=>?_
 (subst_vars;exact⟨rfl,b.ext⟩)
 refine pe results69 (c_.fx fF rfl cz rfl rfl) (c_.fx fF rfl bw rfl rfl) (c_.tmp rfl) λe b=>?_;exact⟨by rw[ai bR,ai bR,ai bR,ai bR];rfl,b.ext⟩
def yp(id d:Int):List UInt8 × Bool × Int:=match lU e.st.abs id ⟨e.rows,0⟩ with
 | none=>([],false,5)
 | some b=>match ra b d with
  | none=>([],false,1)
  | some (c,a)=>(if a=⟨e.rows,0⟩ then p0 (ld e.hJ c a) else ld e.hJ c a,b.cut,0)
abbrev copyV :Value:= .tuple #[bU G.1,.bool G.2.1,ad G.2.2]
def YN{q:bG}(b:sn m)(a:ra m c=some (H,q)):fm H/\fm q:=by
 unfold ra at a
 split at a
 cases a;exact⟨b.start,b.stop⟩
 split at a
 cases a;exact⟨b.start,b.input⟩
 split at a
 cases a;exact⟨b.input,b.output⟩
 split at a
 cases a;exact⟨b.output,b.done⟩
 cases a
def Mw{id:Int}{q:bG}(a:lU I id q=some m):m∈no I q:=List.mem_of_find?_eq_some a
def Mx{L:Int}(h:dn e a L)(q:bc d [cl e])(id i:Int):ay 22 [ptr e.g,.int .u64 id,ad i] d (aX (λ_:Unit=>copyV<|yp e id i) [cl e] (λ_=>[cl e]) (λ_=>True) d):=by
 have Z:=h.rw
 have r:=h.hJ
 unfold yp;cases s:lU e.st.abs id ⟨e.rows,0⟩ with
 | none=>
  have p:tZ (lU e.st.abs id ⟨e.rows,0⟩)= .tuple #[.agg tY.enc.toArray,.bool false]:=by rw[s];rfl
  refine bX func22 ntmps22 q ?_;refine bP ?_;refine bd (λb f=>p▸wg b e h (f.has bw) id) ?_;refine a7 ?_;intro E F G;refine fR (vs:=tY.enc) ia rfl rfl (bC.whole cJ bo) rfl (aV.cons rfl<|aV.cons rfl<|aV.cons rfl<|aV.cons rfl<|aV.cons rfl<|aV.cons rfl<|aV.cons rfl<|hg rfl rfl rfl rfl rfl rfl rfl rfl rfl rfl) (by exact ej rfl) ?_;refine lb ?_;exact bT () bh
 | some v=>
  have p:tZ (lU e.st.abs id ⟨e.rows,0⟩)= .tuple #[.agg v.enc.toArray,.bool true]:=by rw[s];rfl
  have M:sn v:=h.lp.2 v<|Mw s
  dsimp only;cases t:ra v i with
  | none=>
   refine bX func22 ntmps22 q ?_;refine bP ?_;refine bd (λb f=>p▸wg b e h (f.has bw) id) ?_;refine a7 ?_;intro E F G;refine fR (vs:=v.enc) ia rfl rfl (bC.whole cJ bo) rfl (aV.cons rfl<|aV.cons rfl<|aV.cons rfl<|aV.cons rfl<|aV.cons rfl<|aV.cons rfl<|aV.cons rfl<|hg rfl rfl rfl rfl rfl rfl rfl rfl rfl rfl) (by exact ej rfl) ?_;refine bP ?_;have u:Fa (ra v i)= .tuple #[fc ⟨0,0⟩,fc ⟨0,0⟩,.bool false]:=by rw[t];rfl
   refine a7 ?_;refine cE (vs:=v.enc) ia rfl rfl rfl (λN w x y z=>w.mI (sz:=17) (o:=0) (xs:=v.enc) bw rfl x y z) ?_;refine av ?_;refine bd (λb f=>u▸Mv b v i) ?_;refine aI ?_;intro H O P;refine av ?_;intro I Q R;refine qp ?_;exact bT () bh
  | some S=>
   obtain⟨⟨B,C⟩,⟨m,n⟩⟩:=S;obtain⟨T,J⟩:=YN M t;dsimp only[copyV];refine bX func22 ntmps22 q ?_;refine bP ?_;refine bd (λb f=>p▸wg b e h (f.has bw) id) ?_;refine a7 ?_;intro E F G;refine fR (vs:=v.enc) ia rfl rfl (bC.whole cJ bo) rfl (aV.cons rfl<|aV.cons rfl<|aV.cons rfl<|aV.cons rfl<|aV.cons rfl<|aV.cons rfl<|aV.cons rfl<|hg rfl rfl rfl rfl rfl rfl rfl rfl rfl rfl) (by exact ej rfl) ?_;refine bP ?_;have u:Fa (ra v i)= .tuple #[fc ⟨B,C⟩,fc ⟨m,n⟩,.bool true]:=by rw[t];rfl
   refine a7 ?_;refine cE (vs:=v.enc) ia rfl rfl rfl (λN w x y z=>w.mI (sz:=17) (o:=0) (xs:=v.enc) bw rfl x y z) ?_;refine av ?_;refine bd (λb f=>u▸Mv b v i) ?_;refine aI ?_;intro H O P;refine av ?_;intro I Q R;refine cn ?_;have Za:=Mu r.1 r.2.1 ⟨B,C⟩ ⟨m,n⟩
   refine ap ?_;refine fg [0,2,3] 2 [[(1,false,[]),(4,false,[5])]] (_) mixed ak (λ_ o=>o.drew) (λ_ j=>(show ag _ _ [aG H _ 44,aG I _ 44] _ from j.aF ah)) ?_;refine aI ?_;refine dE (Mn · e h ·) λk K=>?_;refine cv (λ_=>True) (λ_ j=> .inr<|j.aF ah) (λ_ j=>bh) ?_;refine aA ?_;refine bd (hargs:=rfl) (λb f=>Me b _ k.A k.l.length k.c e.hJ ((show b2 k.l=e.hJ from K)▸nL (f.has (c:=k.aD) cz) (f.has (c:=k.cw) cW)) ⟨B,C⟩ ⟨m,n⟩ (by have:=a_ List.length<|show b2 k.l=e.hJ from K;rw[c8] at this;omega) T.1 J.2.1 J.1 (λU V W X=>by have:=(r.1 U V).2 W X;omega) aa) ?_;refine cv (λ_=>True) (λ_ j=> .inr ⟨.inr<|j.aF ah,dC⟩) (λ_ j=>bh) ?_;refine aH ?_;refine bN [0,1] 1 [[(2,false,[3])]] ?_;refine a7 ?_;refine cU (Bd · e h ·) ?_;refine av ?_;refine aO rfl (λZb Zc=>(rC F_ rfl rfl rfl ak (rfl) aJ)) ?_;refine ap ?_;refine cD rfl (λD=>?_) λD=>?_;refine aA ?_;refine bF (hargs:=rfl) (Yu · _ aa) ?_;refine a7 ?_;refine bN [0,1,2,3,4,5] 0 [[]] ?_;refine bP ?_;exact λY o=>aX.cf () bh (by rw[aB (bg<|(B2 ⟨m,n⟩ ⟨e.rows,0⟩).symm.trans D)])<|o.aF ah
   refine ap ?_;refine bN [0,1,2,3,4,5] 0 [[]] ?_;refine bP ?_;exact λY o=>aX.cf () bh (by rw[ai (bm<|(B2 ⟨m,n⟩ ⟨e.rows,0⟩).symm.trans D)])<|o.aF ah
def YO{T:Nat}{U:Int}(r:dn e T U)(V:bc d [cl e])(m:List UInt8)(W:m.length<=1000000)(v:Int):ay 29 [ptr e.g,bU m,ad v] d (aX (λf:e7 × Int=> .tuple #[f.1.val,ad f.2]) [cl e] (λf=>[cl e,f.1.aD]) (λ_=>True) d):=by
 have Zs:=r.rw
 have w:=r.hJ
 have X: ∃j:gn,∃C:Bool,tZ (lU e.st.abs (IntKind.u64.wrap v) ⟨e.rows,0⟩)= .tuple #[.agg j.enc.toArray,.bool C]/\(C=true->sn j):=by
  cases Y:lU e.st.abs (IntKind.u64.wrap v) ⟨e.rows,0⟩ with
  | none=>exact⟨tY,false,rfl,λb=>by cases b⟩
  | some j=>exact⟨j,true,rfl,λ_=>r.lp.2 j<|Mw Y⟩
 obtain⟨j,C,Z,M⟩:=X;refine bX func29 ntmps29 V ?_;refine cn ?_;refine (cj) (λN=>a6 ?_) λN=>?_
 ·exact λO n=>aX.cf (⟨none,0,[]⟩,1) bh rfl<|(n.e4 44 c1).aF ah
 ·have Za:1<=m.length:=by
   rcases hV m.length with ar | ar
   ·have Zb:=jX ar
    subst Zb;exact absurd rfl N
   ·exact ar
  refine aU ?_;intro x Zt Zu;refine av ?_;intro y Zv Zw;refine cZ ?_;refine cU (Bd · e r ·)<|aI ?_;refine gA (λP:Bool=>[(0,ptr e.g),(1,bU m),(2,ad v),(8,ptr x),(9,ptr y),(30,.bool P)]) (λ_=>ag d (aK [cl e]) [aG y (bG.enc ⟨e.rows,0⟩) 44,aG x (bG.enc ⟨0,0⟩) 44,cl e]) (λ_=>True) ?_ ?_
  ·refine a7 ?_
   focus (refine bl 27 rfl (λt=>?_) λt=>?_;have Zc:=bg t;refine a7 ?_;rotate_left;have Zc:=bm t;refine aH ?_;all_goals (exact dN _ bh (jF rfl rfl rfl rfl rfl rfl) λ_ b=>b.aF ah))
  rintro P -;refine av ?_;refine Kr (λ_:bG × bG=>[(0,ptr e.g),(1,bU m),(8,ptr x),(9,ptr y)]) (λf=>ag d (aK [cl e]) [aG y f.2.enc 44,aG x f.1.enc 44,cl e]) (λf=>fm f.1/\fm f.2) ?_ ?_
  ·refine cD rfl (λt=>a7 ?_) λt=>av ?_
   ·refine dW rfl rfl underlying3 underlying63 rfl<|bd (λo q=>Z▸wg o e r (q.has cW) _) ?_
    refine a7 ?_;intro Zd Zx Zy;refine fR (vs:=j.enc) ia rfl rfl (bC.whole cJ bo) rfl (aV.cons rfl<|aV.cons rfl<|aV.cons rfl<|aV.cons rfl<|aV.cons rfl<|aV.cons rfl<|aV.cons rfl<|hg rfl rfl rfl rfl rfl rfl rfl rfl rfl rfl) (by exact ej rfl)<|a6 ?_;refine bl 40 rfl (λD=>cZ ?_) λD=>aU ?_
    ·refine Ed<|yA<|av ?_
     exact λO n=>aX.cf (⟨none,0,[]⟩,5) bh rfl<|(n.e4 44 c1).aF ah
    ·refine (cj) (λZe=>aY ?_) λZe=>aA ?_
     ·refine Ed<|yA<|av ?_
      exact λO n=>aX.cf (⟨none,0,[]⟩,5) bh rfl<|(n.e4 44 c1).aF ah
     ·refine fg [0,1,2,3] 2 [[(4,false,[]),(5,false,[])]] (_) mixed ak (λ_ n=>n.drew) (λ_ b=>(show ag _ _ [aG Zd j.enc 67] _ from b.aF ah))<|aU ?_
      refine cv (λ_=>True) (λ_ b=> .inr<|b.aF ah) (λ_ b=>bh)<|ap ?_;refine cv (λ_=>True) (λ_ b=> .inr ⟨.inr<|b.aF ah,dC⟩) (λ_ b=>bh)<|aA ?_;exact jP (j.start,j.stop) ⟨(M<|by simpa using D).start,(M<|by simpa using D).stop⟩ b5 λ_ b=>b.aF ah
   ·exact jP (⟨0,0⟩,⟨e.rows,0⟩) ⟨by dsimp only[fm];omega,by dsimp only[fm];omega⟩ b5 λ_ b=>b.aF ah
  ·rintro⟨⟨E,F⟩,⟨G,H⟩⟩ ⟨Q,z⟩
   have Zz:=Mu w.1 w.2.1 ⟨E,F⟩ ⟨G,H⟩
   refine a7 ?_;refine dE (Mn · e r ·) λh Zf=>?_;refine av ?_;have I:b2 h.l=e.hJ:=Zf
   have ZA:h.l.length=e.hJ.length:=by rw[<-I,c8]
   refine aU ?_;refine bK (l0:=[]) aP.nil (hargs:=rfl) (λo q=>Yo o _ h.A h.l.length h.c e.hJ (I▸nL (q.has (c:=h.aD) cz) (q.has (c:=h.cw) cW)) ⟨E,F⟩ ⟨G,H⟩ aa Q.1 z.2.1 z.1 (λJ K i s=>by have:=(w.1 J K).2 i s;omega) aa) λB ZB=>?_;refine cZ ?_;refine bd (hargs:=rfl) (λo q=>Me o _ h.A h.l.length h.c e.hJ (I▸nL (q.has (c:=h.aD) cW) (q.has (c:=h.cw) hL)) ⟨E,F⟩ ⟨G,H⟩ aa Q.1 z.2.1 z.1 (λJ K i s=>by have:=(w.1 J K).2 i s;omega) aa) ?_;refine av ?_;refine bK (l0:=[]) aP.nil (hargs:=rfl) (λo _=>Yb o _ m aa ⟨Za,W⟩) λi s=>aI ?_;refine dh (H':=ag d (aK [cl e]) [e7.aD ⟨none,0,[]⟩,i.aD,B.aD,cl e]) ?_ (Sub.refl _) λR Zg=>(Zg.e4 44 c1).aF ah;refine cd (ι:=Nat × e7) (λk=>[(13,B.val),(14,k.2.val),(59,i.val),(60,ad (i.l.length:Int)),(61,ad (k.1 :Int))]) (λk=>ag d (aK [cl e]) [k.2.aD,i.aD,B.aD,cl e]) (λk=>k.1<=i.l.length/\k.2.l.length<=k.1) (λk=>i.l.length - k.1) ?_ ?_
   ·exact λZC Zh=>⟨(0,⟨none,0,[]⟩),⟨b4 _,b4 _⟩,(en rfl rfl rfl rfl rfl),Zh.aF ah⟩
   ·rintro⟨f,S⟩ ⟨Zi,Zj⟩
    have ZD:=s.1
    dsimp only at Zi Zj ⊢
    refine aH ?_;refine (cj) (λZk=>?_) λZk=>cZ ?_
    ·obtain⟨a,Zl⟩ : ∃a,i.l[f]? = some a:=⟨_,bD aa⟩
     have ZE:=s.2 a<|cR Zl
     obtain⟨u,rfl⟩ : ∃u:Nat,a=(u:Int):=⟨a.toNat,aa⟩;obtain⟨⟨Zm,Zn⟩,ZF⟩ : ∃p,B.l[u]? = some p:=⟨_,bD aa⟩;refine aH ?_;refine ik (E:=ct) cz eE rfl rfl rfl bo aa λZG Zo=>bb bY rfl rfl (λZp L=>L.Ad (E:=ct) cz Zo bR _ rfl)<|aU ?_;refine ik (E:=c1) cW eR rfl rfl rfl bo aa λZH Zq=>cE fF rfl rfl rfl (λZp L u R Zr=>L.hG (E:=c1) cW Zq bR u R Zr)<|ef (E:=c1) ⟨_,_⟩ eR rfl rfl rfl rfl rfl λZI ZJ ZK=>fu (E:=c1) eR rfl rfl rfl bx (λ_ _=>cJ) cg cg λZL ZM=>aY ?_;exact bv (f+1,⟨_,_,S.l++[⟨Zm,Zn⟩]⟩) ⟨aa,by dsimp only;rw[b3,kt];omega⟩ bL (en rfl rfl rfl rfl rfl) λ_ b=>b.aF ah
    ·exact bT (S,0) bh
structure Fb (rows al lines b n:Int) (i:cm):Prop where
 ok:dn i 0 0
 T:i.T.abs=o4 rows al lines
 p:i.p=nk i.p.g n
 st:i.st.abs=⟨[],b,0,[]⟩
 es:i.es= #[]
 room:i.az.r.room=lines
abbrev Bg(a b c d e:Nat)(f g h:Int)(i:bM):cm:=⟨t,0,true,a,nk b f,i,⟨c,none,0,[],g,0,[]⟩,⟨d,⟨none,0,[]⟩,h⟩,e,#[],0⟩
def YP(g cB az gs d f:Nat)(n b p:Int)(T:bM){rows al:Int}(i:1<=b/\b<=10000)(ao:1<=p/\p<=10000)(aC:1<=n/\n<=65536)(h:cK cB c 0 T/\T.abs=o4 rows al c):Fb rows al c b n (Bg g cB az gs d f n b p T) where
 ok:=⟨La aC,⟨h.1.am,h.1.br,⟨rfl,h.1.room.2⟩,h.1.bt,h.1.cy,h.1.bu,h.1.buf,h.1.aQ,h.1.md⟩,⟨⟨i,by show ((0 :Nat):Int)<=b;omega,⟨oj 0,oj 0⟩,λe a=>(by cases a),List.Pairwise.nil,b4 _⟩,λe a=>(by cases a)⟩,⟨by show ((0 :Nat):Int)<=p;omega,ao⟩,λx j=>by simp at j,⟨oj 0,(by decide: (0 :Int)<=1000000)⟩⟩
 T:=h.2
 p:=rfl
 st:=rfl
 es:=rfl
 room:=h.1.room.1
def My(v:bc d [eS])(f h i b e c:Int)(w:1<=f/\f<=30)(x:2<=h/\h<=40)(y:0<=i/\i<=100)(r:1<=b/\b<=10000)(s:1<=e/\e<=10000)(t:1<=c/\c<=65536):
 ay 20 [.agg #[ad f,ad h,ad i,ad b,ad e,ad c]] d (aX (λa:cm=> .tuple #[ptr a.g,z0]) [eS] (λa=>[cl a]) (Fb f h i b c) d):=by
 refine bX func20 ntmps20 v ?_;refine ap ?_;intro C D E;refine cZ ?_;refine kH (Ld · f h i c w x y t) λa z=>bP ?_;refine kH (W5 · b r) λj _=>?_;refine bP ?_;refine kH (WG · e s) λk _=>?_;refine cn ?_;refine bl 36 rfl (λl=>?_) λl=>?_;have A:=bg l
 refine fT ?_;exact λm n=>absurd l aW
 have A:=bm l
 refine aH ?_;refine bl 40 rfl (λo=>?_) λo=>?_;have B:=bg o
 refine dO ?_;exact λm n=>absurd o aW
 have B:=bm o
 refine aU ?_;refine (cj) (λu=>a6 ?_) λu=>aY ?_;exact λm n=>absurd u aW
 refine Yx rfl λp F G=>aA ?_;intro q H I;refine aH ?_;exact λm n=>aX.cf (Bg q a.1 a.2.1 j k p c b e a.2.2) (YP q a.1 a.2.1 j k p c b e a.2.2 r s t z) rfl<|(((((show ag d (aK [eS]) ((Bg q a.1 a.2.1 j k p c b e a.2.2).aq::_) m from n).close (l:=du ⟨j,none,0,[],b,0,[]⟩) ah).close (l:=gM ⟨k,⟨none,0,[]⟩,e⟩) ah).close (l:=fl (nk a.2.1 c) a.1 a.2.1 a.2.2) ah).close (l:=dl<|Bg q a.1 a.2.1 j k p c b e a.2.2) ah).aF ah
