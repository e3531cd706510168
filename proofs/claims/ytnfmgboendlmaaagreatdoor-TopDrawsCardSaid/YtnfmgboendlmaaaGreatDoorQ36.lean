/- part 36 of the proof -/
import Derived.Test.YtnfmgboendlmaaaGreatDoorQ35
import Derived.WalkMore
set_option linter.all false
namespace Go.Proofs.YtnfmgboendlmaaaGreatDoor.Mq
open RowKit Tryz
variable {P:Program}{n:Nat}{Q:cN}{l:Fr}
variable {y:Code}{B:Ending}{m:Int}{D:List Chunk}{z:List Int}{C:List Nat}{J:List aL}{K:List bq}{k:Nat}{E:Nat->Prop}{F:Option Addr}{j:Type}{i t:World}{r:bG}(b:World)(c:Nat->Prop)(f:List UInt8)(x:gn)(A:UInt8)(o:bG)(a:Option Addr)(s:List UInt8)(d:Nat)(p:Int)(g:Nat)(h:List bq)(e:List Int)(G:List aL)(I:Bool)
def L1(m:Rd ct b c a d g e)(s:d<=1000000):ay 150 [.slice a d g] b
 (aX (λf:hU=>f.val) [] (λf=>[f.aD]) (λf=>f.l.length<=d) b):=by
 have t:=m.len
 refine ba func150 ntmps150 ?_;refine aY ?_;refine rv 3 1 ?_;refine rR (E:=ct) (src:=e) (F:=c) (m:=0) (xs:=[]) e.length aa eE rfl rfl rfl (λ_=>by exact cJ) (λu n=>m.ext n.ext au) (by simp only[maxLen];omega) aa λi j=>?_;refine aH ?_;refine (dg) (XW · ⟨i,j,e⟩ · (by show e.length<=1000000;omega)) λh k=>?_;refine aI ?_;refine bK (l0:=[hU.aD ⟨i,j,h⟩]) ah (hcb:=cL) (hargs:=(by rw[<-k];rfl)) (λo p=>XX o ⟨i,j,h⟩ (p.cb ah)<|by show h.length<=1000000;dsimp only at k;omega) λq r=>?_;refine aI ?_;exact jG q<|ge r (by show h.length<=d;dsimp only at k;omega)
def L2(e:FuncId)(f:List Value)(t:d<=1000000)(l:dX prog e)
 (m: ∀h,Ext [] b h-> ∀a:Nat,a<d->Calls prog e (([]:List Value)++[Value.int .i64 (a:Int)]++f).toArray h (yf h)):
 ay 390 [ad (d:Int),.func (.func e) [].toArray f.toArray] b (gu (λg:Int=>ad g) (λg=>0<=g/\g<=d) b):=by
 refine ba func390 ntmps390 ?_;refine cZ ?_;refine cd (ι:=Nat × Nat) (λa=>[(1,.func (.func e) [].toArray f.toArray),(5,ad (a.1 :Int)),(6,ad (a.2 :Int))]) (λ_=>ag b [] []) (λa=>a.1<=a.2/\a.2<=d) (λa=>a.2 - a.1) ?_ ?_;exact λb n=>⟨(0,d),⟨b4 _,cC _⟩,(ed rfl rfl rfl),n⟩
 rintro⟨a,i⟩ ⟨o,k⟩;dsimp only at o k ⊢
 obtain⟨c,u⟩ : ∃c,c=(a+i)/2:=⟨_,rfl⟩;refine (aE) (λp=>aY ?_) λp=>cn ?_;refine dW rfl rfl underlying3 underlying276 (r:=(a:Int)+(i:Int)) (by simp[IntKind.wrap,IntKind.bits,IntKind.signed];omega) ?_;refine G1 rfl rfl rfl aW (r:=(c:Int)) (by rw[show min (1 :Int).toNat IntKind.u64.bits=1 from rfl];omega) ?_;refine dW rfl rfl underlying276 underlying3 (r:=(c:Int)) (by simp[IntKind.wrap,IntKind.bits,IntKind.signed];omega) ?_;refine aU ?_;refine k_ (l0:=[]) (first:=[]) (cap:=f) aP.nil rfl rfl l rfl (λq r=>m q r.ext c aa) λv _=>?_;refine ap ?_;refine cD rfl (λs=>aH ?_) λs=>aI ?_;exact bv (c+1,i) ⟨by dsimp only;omega,k⟩ bL b5 λ_ j=>j;exact bv (a,c) ⟨by dsimp only;omega,by dsimp only;omega⟩ bL b5 λ_ j=>j;exact eN (a:Int) ⟨aa,aa⟩
def XY(k:Rd ct b c a d g e)(l m:Nat)(o:Int)(p: (aG l [.slice a d g] 176).pred b)(q: (aG m [ad o] 3).pred b)(i:Nat)(u:i<d):
 Calls prog 391 (([]:List Value)++[Value.int .i64 (i:Int)]++[ptr l,ptr m]).toArray b (yf b):=by
 have w:=k.len
 obtain⟨v,r⟩ : ∃v,e[i]? = some v:=⟨_,bD aa⟩;obtain⟨x,s,y,t⟩:=k.at_ r;refine ba func391 ntmps391 ?_;refine aH ?_;refine bN [0,1,2,3,4,5,6] 0 [[]] ?_;refine aO rfl (λj f=>(bb jD rfl rfl (λn h=>by subst h;exact f.cc p (by (simp;done)) rfl) aJ)) ?_;refine av ?_;refine aO rfl (λj f=>(bE (q:=i) eE rfl rfl rfl s rfl aa aJ)) ?_;refine aO rfl (λj f=>(bb (v:=ad v) bY rfl rfl (λn h=>by subst h;exact f.ch (t 0 _ rfl) au) aJ)) ?_;refine aO rfl (λj f=>(bb bY rfl rfl (λn h=>by subst h;exact f.cc q (by (simp;done)) rfl) aJ)) ?_;refine aU ?_;exact eN _ bh
def XZ(k:Rd ct b c a d g e)(l m:Nat)(o:Int)(p: (aG l [.slice a d g] 176).pred b)(q: (aG m [ad o] 3).pred b)(i:Nat)(u:i<d):
 Calls prog 392 (([]:List Value)++[Value.int .i64 (i:Int)]++[ptr l,ptr m]).toArray b (yf b):=by
 have w:=k.len
 obtain⟨v,r⟩ : ∃v,e[i]? = some v:=⟨_,bD aa⟩;obtain⟨x,s,y,t⟩:=k.at_ r;refine ba func392 ntmps392 ?_;refine aH ?_;refine bN [0,1,2,3,4,5,6] 0 [[]] ?_;refine aO rfl (λj f=>(bb jD rfl rfl (λn h=>by subst h;exact f.cc p (by (simp;done)) rfl) aJ)) ?_;refine av ?_;refine aO rfl (λj f=>(bE (q:=i) eE rfl rfl rfl s rfl aa aJ)) ?_;refine aO rfl (λj f=>(bb (v:=ad v) bY rfl rfl (λn h=>by subst h;exact f.ch (t 0 _ rfl) au) aJ)) ?_;refine aO rfl (λj f=>(bb bY rfl rfl (λn h=>by subst h;exact f.cc q (by (simp;done)) rfl) aJ)) ?_;refine aU ?_;exact eN _ bh
abbrev L3(b:World):=gu (λa:Int=>ad a) (λa=>0<=a/\a<=d) b
def X0(k:Rd ct b c a d g e)(l:d<=1000000)(j:Int):ay 316 [.slice a d g,ad j] b (L3 d b):=by
 refine ba func316 ntmps316 ?_;refine ap ?_;intro m t u;refine av ?_;intro n v w;refine aY ?_;refine bK (l0:=[]) aP.nil (hargs:=rfl) (λf h=>L2 f d _ _ l cL λo i p q=>XY o c a d g e ((k.ext h.ext au).df i) m n j ((ag.start f).keep i |>.ew (h.has cz) au) ((ag.start f).keep i |>.ew (h.has bw) au) p q) λr s=>aI ?_;exact eN r s
def X1(k:Rd ct b c a d g e)(l:d<=1000000)(j:Int):ay 317 [.slice a d g,ad j] b (L3 d b):=by
 refine ba func317 ntmps317 ?_;refine ap ?_;intro m t u;refine av ?_;intro n v w;refine aY ?_;refine bK (l0:=[]) aP.nil (hargs:=rfl) (λf h=>L2 f d _ _ l cL λo i p q=>XZ o c a d g e ((k.ext h.ext au).df i) m n j ((ag.start f).keep i |>.ew (h.has cz) au) ((ag.start f).keep i |>.ew (h.has bw) au) p q) λr s=>aI ?_;exact eN r s
abbrev E0 :=gu (λa:Int × Bool=> .tuple #[ad a.1,.bool a.2]) (λ_=>True) b
def X2(h:Rd ct b c a d g e)(k:d<=1000000)(i:Int):ay 220 [.slice a d g,ad i] b (E0 b):=by
 have u:=h.len
 refine ba func220 ntmps220 ?_;refine bP ?_;refine bK (l0:=[]) aP.nil (λl m=>X0 l c a d g e (h.ext m.ext au) k i) λj w=>bP ?_;focus (refine (cj) (λn=>?_) λn=>?_;obtain⟨f,o⟩ : ∃f:Nat,j=(f:Int):=⟨j.toNat,aa⟩;obtain⟨v,p⟩ : ∃v,e[f]? = some v:=⟨_,bD aa⟩;obtain⟨x,q,y,r⟩:=h.at_ p;refine a7 ?_;refine bE (q:=f) eE rfl rfl rfl q o aa ?_;refine bb (v:=ad v) bY rfl rfl (λz s=>s.ch (r 0 _ rfl) au)<|aU ?_;rotate_left;refine be ?_;all_goals (intro A t;exact gu.of (_,_) bh rfl t.ext))
def X3(h:Rd ct b c a d g e)(k:d<=1000000)(i:Int):ay 221 [.slice a d g,ad i] b (E0 b):=by
 have u:=h.len
 refine ba func221 ntmps221 ?_;refine be ?_;refine bK (l0:=[]) aP.nil (λl m=>X1 l c a d g e (h.ext m.ext au) k i) λj w=>be ?_;focus (refine (cj) (λn=>?_) λn=>?_;refine a6 ?_;rotate_left;obtain⟨f,o⟩ : ∃f:Nat,j - 1=(f:Int):=⟨(j - 1).toNat,aa⟩;obtain⟨v,p⟩ : ∃v,e[f]? = some v:=⟨_,bD aa⟩;obtain⟨x,q,y,r⟩:=h.at_ p;refine aU ?_;refine bE (q:=f) eE rfl rfl rfl q o aa ?_;refine bb (v:=ad v) bY rfl rfl (λz s=>s.ch (r 0 _ rfl) au)<|aH ?_;all_goals (intro A t;exact gu.of (_,_) bh rfl t.ext))
def X4 :ay 149 [.agg x.enc.toArray,ad p] b (E0 b):=by
 refine ba func149 ntmps149 ?_;refine ap ?_;intro i j k;refine cZ ?_;focus (refine (cj) (λc=>?_) λc=>?_;refine bP ?_;rotate_left;(focus refine aU ?_;refine (cj) (λd=>?_) λd=>?_;refine cn ?_;rotate_left;(focus refine aU ?_;refine (cj) (λe=>?_) λe=>?_;(focus refine av ?_;refine bN [0,1,2,3,4,5,6,7,8,9,10,11,12] 0 [[]] ?_;refine aU ?_;refine qm 25 rfl (λa=>?_) λa=>?_;have f:=bg a;rotate_left;have f:=bm a;all_goals (refine cn ?_));rotate_left 2;(focus refine aU ?_;refine (cj) (λa=>?_) λa=>?_;(focus refine av ?_;refine bN [0,1,2,3,4,5,6,7,8,9,10,11] 0 [[]] ?_;refine aH ?_;refine qm 38 rfl (λg=>?_) λg=>?_;all_goals (refine cn ?_));rotate_left 2;refine bP ?_)));all_goals (intro l h;exact gu.of (_,_) bh rfl h.ext))
def X5(p:Nat->Prop)(g:Option Addr)(e c:Nat)(n:List gn)(o:Rd lo b p g e c n)(H:e<=100000)(h:Int):ay 81 [.slice g e c,ad h] b
 (aX (λa:hU=>a.val) [] (λa=>[a.aD]) (λa=>a.l.length<=e) b):=by
 have I:=o.len
 refine ba func81 ntmps81 ?_;refine gQ ?_;refine dh (H':=ag b [] [hU.aD ⟨none,0,[]⟩]) (av ?_) (Sub.refl _) λJ q=>q.e4 3 ct;refine cd (ι:=Nat × hU) (λd=>[(1,ad h),(5,d.2.val),(10,.slice g e c),(11,ad (e:Int)),(12,ad (d.1 :Int))]) (λd=>ag b [] [d.2.aD]) (λd=>d.1<=e/\d.2.l.length<=d.1) (λd=>e - d.1) ?_ ?_;exact λK r=>⟨(0,⟨none,0,[]⟩),⟨b4 _,b4 _⟩,(en rfl rfl rfl rfl rfl),r⟩
 rintro⟨f,a⟩ ⟨s,t⟩;dsimp only at s t ⊢
 refine (aE) (λu=>?_) λu=>aY ?_;obtain⟨v,w⟩ : ∃v,n[f]? = some v:=⟨_,bD aa⟩;obtain⟨L,x,M,y⟩:=o.at_ w;refine aH ?_;refine bE (q:=f) oC rfl rfl rfl x rfl aa<|cE (vs:=v.enc) ia rfl rfl rfl (λN z i j k=>z.ch (y i j k) au)<|av ?_;intro O P Q;refine fR (vs:=v.enc) ia rfl rfl (bC.whole cJ bo) rfl (aV.cons rfl<|aV.cons rfl<|aV.cons rfl<|aV.cons rfl<|aV.cons rfl<|aV.cons rfl<|aV.cons rfl<|hg rfl rfl rfl rfl rfl rfl rfl rfl rfl rfl) (by exact ej rfl)<|a7 ?_;refine cE (vs:=v.enc) ia rfl rfl rfl (λR B i j k=>B.mI (sz:=17) (o:=0) (xs:=v.enc) bw rfl i j k)<|av ?_;refine kH (X4 · v h) λ⟨C,S⟩ _=>?_;refine b6 ?_;refine cD rfl (λD=>ap ?_) λD=>aU ?_;refine ef (E:=ct) _ eE rfl rfl rfl rfl rfl λT U V=>fu (E:=ct) eE rfl rfl rfl bx (λ_ _=>fs) cg cg λW X=>aY ?_;exact bv (f+1,⟨_,_,a.l++[C]⟩) ⟨aa,by dsimp only;rw[b3,kt];omega⟩ bL (en rfl rfl rfl rfl rfl) λ_ m=>m.aF ah;exact bv (f+1,a) ⟨aa,by dsimp only;omega⟩ bL b5 λ_ m=>m.aF ah;refine bK (l0:=[]) aP.nil (hargs:=rfl) (λE F=>L1 E _ a.A a.l.length a.c a.l (hF<|F.has (c:=a.aD) bw) aa) λG Y=>aI ?_;exact jG G aa
def X6(v:Nat->Prop)(m:Option Addr)(k c:Nat)(w:List Int)(x:Rd ct b v m k c w)(C:k<=100000)(n g:Int)(D: -9223372036854775808<=g/\g<=9223372036854775807):ay 147 [.slice m k c,ad n,ad g] b
 (gu (λh:Int=>ad h) (λ_=>True) b):=by
 refine ba func147 ntmps147 ?_;refine aY ?_;refine bK (l0:=[]) aP.nil (λi j=>L1 i v m k c w (x.ext j.ext au) aa) λa E=>?_;refine (aE) (λy=>a7 ?_) λy=>cZ ?_;refine qi rfl rfl (wrap64 aa aa)<|aA ?_;refine qi rfl rfl (wrap64 aa aa)<|fa ?_;refine cd (ι:=Nat × Int) (λd=>[(1,ad d.2),(7,a.val),(8,.func (.func 221) #[] #[]),(28,ad<|min (0 - max g (0 - (a.l.length:Int) - 1))<|(a.l.length:Int)+1),(29,ad (d.1 :Int))]) (λ_=>ag b [] [a.aD]) (λd=>d.1<=200000) (λd=>200000 - d.1) ?_ ?_;exact λz o=>⟨(0,n),b4 _,(en rfl rfl rfl rfl rfl),o.aF ah⟩
 rintro⟨p,q⟩ r;dsimp only at r ⊢
 refine (aE) (λs=>a6 ?_) λs=>cn ?_;refine k_ (l0:=[]) (first:=[]) (cap:=[]) aP.nil rfl rfl cL rfl (λi j=>X3 i _ a.A a.l.length a.c a.l (hF<|j.has (c:=a.aD) bw) aa q) λ⟨h,B⟩ _=>?_;refine cZ ?_;refine cD rfl (λe=>?_) λe=>?_;simp only[cq] at e
 refine aA ?_;refine rs rfl<|ur<|ru<|rr<|mC<|lx<|ly<|aH ?_;exact λt f=>gu.of _ bh rfl (f.aF aP.nil).ext
 simp only[cq] at e
 refine b6 ?_;exact bv (p+1,h) bL bL b5 λ_ u=>u.aF ah;exact λt f=>gu.of _ bh rfl (f.aF aP.nil).ext
 refine cd (ι:=Nat × Int) (λd=>[(1,ad d.2),(7,a.val),(8,.func (.func 220) #[] #[]),(28,ad<|min g<|(a.l.length:Int)+1),(29,ad (d.1 :Int))]) (λ_=>ag b [] [a.aD]) (λd=>d.1<=200000) (λd=>200000 - d.1) ?_ ?_;exact λz o=>⟨(0,n),b4 _,(en rfl rfl rfl rfl rfl),o.aF ah⟩
 rintro⟨p,q⟩ r;dsimp only at r ⊢
 refine (aE) (λs=>a6 ?_) λs=>cn ?_;refine k_ (l0:=[]) (first:=[]) (cap:=[]) aP.nil rfl rfl cL rfl (λi j=>X2 i _ a.A a.l.length a.c a.l (hF<|j.has (c:=a.aD) bw) aa q) λ⟨h,B⟩ _=>?_;refine cZ ?_;refine cD rfl (λe=>?_) λe=>?_;simp only[cq] at e
 refine aA ?_;refine rs rfl<|ur<|ru<|rr<|mC<|lx<|ly<|aH ?_;exact λt f=>gu.of _ bh rfl (f.aF aP.nil).ext
 simp only[cq] at e
 refine b6 ?_;exact bv (p+1,h) bL bL b5 λ_ u=>u.aF ah;exact λt f=>gu.of _ bh rfl (f.aF aP.nil).ext
section
variable {H:World->Prop}
def E1(Q:cN):cN:=λe l a=>match e with
 | .goto _=>False
 | e=>Q e l a
def L4(b:dA P n y (E1 Q) l H):dA P n (.scope y) Q l H:=by
 intro c d e f;refine wp_scope_straight<|wp_mono (b c d e f) ?_;intro g j k ⟨h,i,a⟩;cases g <;> first | exact a.elim | exact⟨h,i,a⟩
def E2(a:eK Q .normal l H):eK (E1 Q) .normal l H:=a
def X7(a:eK Q .ret l H):eK (E1 Q) .ret l H:=a
end
abbrev v_ :Prop:= ∀(b:Nat)(a:Int),e[b]? = some a-> -1<=a/\a<b
def v_.set(b:v_ z)(e: -1<=m)(f:m<k):v_ (z.set k m):=λc d a=>by
 rw[nB] at a
 split at a
 rename_i g;split at a
 cases a;omega
 cases a
 exact b c d a
def A7 :Calls prog 156 (([]:List Value)++[Value.int .u8 (A.toNat:Int)]++[]).toArray b (Pure (.int .u8 (A.toNat:Int)) b):=by
 refine ba func156 ntmps156 ?_;refine cn ?_;exact λc a=>⟨rfl,a.ext⟩
abbrev ua:Value:= .func (.func 156) #[] #[]
abbrev wa :Chunk:=own 3 1 (.slice (some ⟨d,0,none⟩) g g) g<|ct.all e
def X8(I:f.length<=1000000):ay 320 [bU f,ua] b
 (aX (λa:Nat × List Int=> .slice (some ⟨a.1,0,none⟩) (f.length+1)<|f.length+1) [] (λa=>[wa a.1 (f.length+1) a.2]) (λa=>a.2.length=f.length+1/\v_ a.2) b):=by
 refine ba func320 ntmps320 ?_;refine aI ?_;refine L4<|lx<|ly<|ap ?_;refine sT (f.length+1) eE rfl rfl rfl rfl (by simp only[maxLen];omega) aa λh J K=>?_;refine aH ?_;refine bE (q:=0) eE rfl rfl rfl rfl rfl aa ?_;refine mE (o:=0) bY rfl rfl cJ (by simp[Addr.add_lit]) rfl (by rw[Bw];show 0<(f.length+1)*1;omega) ?_;refine aY ?_;refine FE<|mC<|lx<|lx<|ly<|a7 ?_;obtain⟨j,o⟩ : ∃j:List Int,j=(-1)::List.replicate f.length 0:=⟨_,rfl⟩;have t: (gg [Value.int .i64 0]<|f.length+1).set 0 (ad<|-1)=ct.all j:=by
  rw[o,GY,oq,t_,t_];rfl
 have u:v_ j:=by
  rw[o];intro r v g;cases r with
  | zero=>cases g;exact⟨aW,aW⟩
  | succ r=>
   have:=cR g
   rw[List.getElem?_cons_succ] at g
   have M:=k6<|cR g
   omega
 refine cd (ι:=Nat × Int × List Int) (λe=>[(0,bU f),(1,ua),(5,.slice (some ⟨h,0,none⟩) (f.length+1)<|f.length+1),(6,ad e.2.1),(7,ad (e.1 :Int))]) (λe=>ag b [] [wa h (f.length+1) e.2.2]) (λe=>e.1<=f.length/\ -1<=e.2.1/\e.2.1<e.1/\e.2.2.length=f.length+1/\v_ e.2.2) (λe=>f.length - e.1) ?_ ?_;exact λk m=>⟨(0,-1,j),⟨b4 _,by dsimp only;omega,by dsimp only;omega,by rw[o];simp,u⟩,(en rfl rfl rfl rfl rfl),by rw[t] at m;exact m⟩
 rintro⟨a,d,L⟩ ⟨w,p,q,n,l⟩;dsimp only at w p q n l ⊢
 refine (aE) (λx=>?_) λx=>b6 ?_;obtain⟨y,z⟩ : ∃c,f[a]? = some c:=⟨_,bD aa⟩;refine aH ?_;refine cd (ι:=Int) (λd=>[(0,bU f),(1,ua),(5,.slice (some ⟨h,0,none⟩) (f.length+1)<|f.length+1),(6,ad d),(7,ad (a:Int))]) (λ_=>ag b [] [wa h (f.length+1) L]) (λd=> -1<=d/\d<a) (λd=>(d+1).toNat) ?_ ?_;exact λk m=>⟨d,⟨p,q⟩,(en rfl rfl rfl rfl rfl),m⟩
 rintro d ⟨p,q⟩;refine (aE) (λA=>?_) λA=>dO ?_;obtain⟨B,C⟩ : ∃c,f[d.toNat]? = some c:=⟨_,bD aa⟩;obtain⟨v,g⟩ : ∃v,L[d.toNat]? = some v:=⟨_,bD aa⟩;have N:=l _ _ g
 refine aI ?_;refine bN [0,1,2,3,5,6,7,8] 2 [[(4,false,[]),(9,true,[10])]] ?_;refine ap ?_;refine aO rfl (λD E=>(j2 (q:=a) underlying9 rfl rfl rfl rfl z aJ))<|ap ?_;refine aO rfl (λD E=>(j2 (q:=d.toNat) underlying9 rfl rfl rfl aa C aJ))<|aA ?_;refine ix rfl rfl cL rfl (λk _=>A7 k y)<|ap ?_;refine ix rfl rfl cL rfl (λk _=>A7 k B) ?_;refine (aE) (λF=>?_) λF=>aI ?_;have G: (ct.all L).set ((a+1)*1) (ad<|d+1)=ct.all (L.set (a+1)<|d+1):=by
  rw[t_,t_,Nat.mul_one,p6]
 refine cn ?_;refine bE (q:=a+1) eE rfl rfl rfl rfl aa aa ?_;refine mE (o:=(a+1)*1) bY rfl rfl cJ (by rw[Addr.add_lit,ev]) rfl (by rw[ct.eD];show (a+1)*1<L.length*1;omega) ?_;refine a7 ?_;refine rs rfl<|ru<|rs rfl<|ur<|rr<|mC<|ly<|a7 ?_;refine bv (a+1,d+1,L.set (a+1)<|d+1) ⟨by dsimp only;omega,by dsimp only;omega,by dsimp only;omega,by dsimp only;rw[gx];exact n,l.set aa aa⟩ bL (en rfl rfl rfl rfl rfl) λ_ i=>?_;rw[G] at i
 exact i.aF ah;refine bE (q:=d.toNat) eE rfl rfl rfl rfl aa aa ?_;refine bb (v:=ad v) bY rfl rfl (λO H=>by have s:=H.mH (E:=ct) (e:=3) (g:=h) (m:=f.length+1) (c:=f.length+1) (L:=L) bw g 0 _ rfl;rw[Addr.add_lit,Addr.add_lit] at s;rw[Addr.add_lit];exact s) ?_;refine ap ?_;exact bv v ⟨aa,aa⟩ aa b5 λ_ i=>i.aF ah;exact bv (a+1,0,L) ⟨by dsimp only;omega,by dsimp only;omega,by dsimp only;omega,n,l⟩ bL b5 λ_ i=>i.aF ah;refine X7<|av ?_;exact jG (h,L) ⟨n,l⟩
def aX.star{v:j->Value}{l:List Chunk}{l':j->List Chunk}{ok:j->Prop}(b:aX v l l' ok i B t):aX v [aZ l] (λa=>[aZ (l' a)]) ok i B t:=by
 obtain⟨a,c,rfl,d⟩:=b;have e:aK [aZ l]=aK l:=by rw[y3,eZ]
 have f:ag i (aK l) (l' a++[]) t:=by rw[eZ];exact d
 exact⟨a,c,rfl,e▸f.close'⟩
def bc.k2{l:List Chunk}(a:bc i [aZ l]):bc i l:=by
 have:=a.open
 rwa [eZ] at this
def E3(c:ag i C D t){g m:Nat}{L:List Int}{a:Int}(d:Has D (wa g m L))(e:L[k]? = some a):t.cell? ((⟨g,0,none⟩ :Addr).add<|k*1)=some (ad a):=by
 have b:=c.mH (E:=ct) (e:=3) (g:=g) (m:=m) (c:=m) (L:=L) d e 0 _ rfl
 rw[Addr.add_lit,Addr.add_lit] at b
 rw[Addr.add_lit];exact b
set_option maxHeartbeats 1000000 in
def X9(Zh:f.length<=1000000)(C:1<=s.length/\s.length<=1000000)(g:j->Chunk)(m:Nat->j->Prop)(N: ∀h a,m h a->m (h+1) a)(r o:Nat)(O:dX prog r)
 (P: ∀(n:World)(h:Nat)(a:j)(D:Int),m h a->h<f.length->0<=D->D<f.length->bc n [g a]->Calls prog r (([]:List Value)++[Value.int .i64 D]++[ptr o]).toArray n (aX (λt:Bool × j=> .bool t.1) [g a] (λt=>[g t.2]) (λt=>m (h+1) t.2) n))
 (p:j) (U:bc b [g p]) (V:m 0 p):ay 230 [bU f,bU s,ua,.func (.func r) #[] #[ptr o]] b
 (aX (λ_:j=> .tuple #[]) [g p] (λa=>[g a]) (λa=> ∃h,h<=f.length/\m h a) b):=by
 refine bX func230 ntmps230 U ?_;refine L4<|lx<|lx<|ly ?_;refine (aE) (λQ=>?_) λQ=>aH ?_;exact absurd Q (λd=>by rw[d] at C;simp at C);refine kH (X8 · s C.2) λ⟨cu,i⟩ W=>a6 ?_;refine FE<|mC<|lx<|ly<|a7 ?_;obtain⟨X,E⟩:=W;dsimp only at X E
 refine cd (ι:=Nat × Int × j) (λe=>[(0,bU f),(1,bU s),(2,ua),(3,.func (.func r) #[] #[ptr o]),(8,.slice (some ⟨cu,0,none⟩) (s.length+1)<|s.length+1),(9,ad e.2.1),(10,ad (e.1 :Int))]) (λe=>ag b (aK [g p]) [wa cu (s.length+1) i,g e.2.2]) (λe=>e.1<=f.length/\ -1<=e.2.1/\e.2.1<s.length/\e.2.1<=e.1/\m e.1 e.2.2) (λe=>f.length - e.1) ?_ ?_;exact λw F=>⟨(0,0,p),⟨b4 _,by dsimp only;omega,by dsimp only;omega,by dsimp only;omega,V⟩,(jg rfl rfl rfl rfl rfl rfl rfl),F⟩
 rintro⟨a,k,l⟩ ⟨R,G,H,I,q⟩;dsimp only at R G H I q ⊢
 refine (aE) (λY=>?_) λY=>a7 ?_;obtain⟨Z,Za⟩ : ∃c,f[a]? = some c:=⟨_,bD aa⟩;refine aH ?_;refine cd (ι:=Int) (λk=>[(0,bU f),(1,bU s),(2,ua),(3,.func (.func r) #[] #[ptr o]),(8,.slice (some ⟨cu,0,none⟩) (s.length+1)<|s.length+1),(9,ad k),(10,ad (a:Int))]) (λ_=>ag b (aK [g p]) [wa cu (s.length+1) i,g l]) (λk=> -1<=k/\k<s.length/\k<=a) (λk=>(k+1).toNat) ?_ ?_;exact λw F=>⟨k,⟨G,H,I⟩,(jg rfl rfl rfl rfl rfl rfl rfl),F⟩
 rintro k ⟨G,H,I⟩;obtain⟨Zb,Zc⟩ : ∃c,0<=k->s[k.toNat]? = some c:=⟨(s[k.toNat]?).getD 0,λd=>by rw[bD aa];rfl⟩;obtain⟨v,S⟩ : ∃v,0<=k->i[k.toNat]? = some v:=⟨(i[k.toNat]?).getD 0,λd=>by rw[bD aa];rfl⟩;obtain⟨u,J⟩ : ∃u,i[(k+1).toNat]? = some u:=⟨_,bD aa⟩;have Zi:=E _ _ J
 have Zj:0<=k-> -1<=v/\v<k:=λd=>by have:=E _ _<|S d;omega
 refine aA ?_;refine bN [0,1,2,3,4,5,6,8,9,10,11] 2 [[(7,false,[]),(12,true,[13,14])]] ?_;refine ap ?_;refine qm 24 rfl (λx=>?_) λx=>?_;have Zd:=bg x
 refine ap ?_;refine aO rfl (λZe Zf=>bO rfl rfl (x)<|j2 (q:=a) underlying9 rfl rfl rfl rfl Za aJ)<|ap ?_;refine aO rfl (λZe Zf=>bO rfl rfl (x)<|j2 (q:=k.toNat) underlying9 rfl rfl rfl aa (Zc aa) aJ)<|ap ?_;refine ix rfl rfl cL rfl (λw _=>A7 w Z)<|a7 ?_;refine ix rfl rfl cL rfl (λw _=>A7 w Zb) ?_;refine (aE) (λK=>aH ?_) λK=>?_;refine bE (q:=k.toNat) eE rfl rfl rfl rfl aa aa<|bb (v:=ad v) bY rfl rfl (λT y=>E3 (m:=s.length+1) (L:=i) y bw<|S aa)<|ap ?_;exact bv v ⟨aa,aa,aa⟩ aa b5 λ_ d=>d.aF ah;refine (aE) (λz=>aY ?_) λz=>aY ?_;refine k_ (l0:=[g l]) (first:=[]) (cap:=[ptr o]) ah rfl rfl O rfl (λn L=>P n a l _ q aa aa aa<|L.cb ah) λ⟨Zg,A⟩ B=>?_;refine ap ?_;refine cD rfl (λM=>?_) λM=>?_;simp only[cq] at M
 refine aA ?_;refine rs rfl<|ur<|ru<|rr<|E2<|av ?_;exact bT A ⟨a+1,aa,B⟩;simp only[cq] at M
 refine aI ?_;refine bE (q:=(k+1).toNat) eE rfl rfl rfl rfl aa aa<|bb (v:=ad u) bY rfl rfl (λT y=>E3 (m:=s.length+1) (L:=i) y cz J)<|a6 ?_;exact bv (a+1,u,A) ⟨by dsimp only;omega,by dsimp only;omega,by dsimp only;omega,by dsimp only;omega,B⟩ bL b5 λ_ d=>d.aF ah;exact bv (a+1,k+1,l) ⟨by dsimp only;omega,by dsimp only;omega,by dsimp only;omega,by dsimp only;omega,N _ _ q⟩ bL (jg rfl rfl rfl rfl rfl rfl rfl) λ_ d=>d.aF ah;have Zd:=bm x
 refine (aE) (λK=>aY ?_) λK=>aY ?_;refine k_ (l0:=[g l]) (first:=[]) (cap:=[ptr o]) ah rfl rfl O rfl (λn L=>P n a l _ q aa aa aa<|L.cb ah) λ⟨Zg,A⟩ B=>?_;refine ap ?_;refine cD rfl (λz=>?_) λz=>?_;simp only[cq] at z
 refine aA ?_;refine rs rfl<|ur<|ru<|rr<|E2<|av ?_;exact bT A ⟨a+1,aa,B⟩;simp only[cq] at z
 refine aI ?_;refine bE (q:=(k+1).toNat) eE rfl rfl rfl rfl aa aa<|bb (v:=ad u) bY rfl rfl (λT y=>E3 (m:=s.length+1) (L:=i) y cz J)<|a6 ?_;exact bv (a+1,u,A) ⟨by dsimp only;omega,by dsimp only;omega,by dsimp only;omega,by dsimp only;omega,B⟩ bL b5 λ_ d=>d.aF ah;exact bv (a+1,k+1,l) ⟨by dsimp only;omega,by dsimp only;omega,by dsimp only;omega,by dsimp only;omega,N _ _ q⟩ bL (jg rfl rfl rfl rfl rfl rfl rfl) λ_ d=>d.aF ah;refine E2<|av ?_;exact bT l ⟨a,R,q⟩
abbrev yg(a:hU):Chunk:=aZ [aG d [a.val] 176,a.aD]
def X_(c:hU)(g:Nat)(e:Int)(j:c.l.length<=g)(k:g<=1000000)(f:bc b [yg d c]):Calls prog 231 (([]:List Value)++[Value.int .i64 e]++[ptr d]).toArray b
 (aX (λa:Bool × hU=> .bool a.1) [yg d c] (λa=>[yg d a.2]) (λa=>a.2.l=c.l++[e]) b):=by
 have f:=f.k2
 refine Calls.mono ?_ λm n h=>aX.star (l:=[aG d [c.val] 176,c.aD]) (v:=λa:Bool × hU=>Value.bool a.1) (l':=λa=>[aG d [a.2.val] 176,a.2.aD]) (ok:=λa=>a.2.l=c.l++[e]) h;refine bX func231 ntmps231 f ?_;refine a6 ?_;refine ef (E:=ct) _ eE rfl rfl rfl rfl rfl λo p q=>fu (E:=ct) eE rfl rfl rfl bx (λ_ _=>fs) cg cg λr s=>be ?_;exact λt i=>aX.cf (true,⟨_,_,c.l++[e]⟩) rfl rfl<|i.aF ah
def Ya(v:f.length<=1000000)(k:1<=s.length/\s.length<=1000000):ay 155 [bU f,bU s,ua] b
 (aX (λa:hU=>a.val) [] (λa=>[a.aD]) (λa=>a.l.length<=f.length/\ ∀c∈a.l,0<=c/\c<f.length) b):=by
 refine ba func155 ntmps155 ?_;refine aU ?_;refine sP jD rfl λe w x=>aY ?_;refine iL (H':=ag b [] [yg e ⟨none,0,[]⟩]) ?_ (Sub.refl _) λy m=>((m.e4 3 ct).close (l:=[aG e [hU.val ⟨none,0,[]⟩] 176,hU.aD ⟨none,0,[]⟩]) ah).aF ah;refine (dg) (X9 · f s aa k (yg e) (λh a=>a.l.length<=h/\ ∀c∈a.l,0<=c/\c<f.length) (λh z i=>⟨aa,i.2⟩) 231 e cL (λn h a c g A o p q=>Calls.mono (X_ n e a 1000000 c aa aa q) λB C i=>i.mono λr j=>⟨r,⟨by rw[j,b3,kt];omega,λt d=>by rw[j] at d;rcases dq.1 d with d | d;exact g.2 t d;rw[e0] at d;subst d;exact⟨o,p⟩⟩,rfl,rfl⟩) ⟨none,0,[]⟩ · ⟨b4 _,λc u=>by cases u⟩) λa g=>?_;refine ap ?_;refine uI (lc:=[aG e [a.val] 176,a.aD]) bx<|aU ?_;exact jG a ⟨by have:=g.choose_spec;omega,g.choose_spec.2.2⟩
def Yb(d:f.length<=1000000)(e:1<=s.length/\s.length<=1000000):ay 86 [bU f,bU s] b
 (aX (λa:hU=>a.val) [] (λa=>[a.aD]) (λa=>a.l.length<=f.length/\ ∀c∈a.l,0<=c/\c<f.length) b):=by
 refine ba func86 ntmps86 ?_;refine a6 ?_;refine kH (Ya · f s d e) λa g=>aI ?_;exact jG a g
abbrev lW(c:Option Addr)(e f:Nat)(a b:bG)(g:Nat):List Value:=
 [.slice c e f,ad a.row,ad a.dL,ad b.row,ad b.dL,.func (.func d) #[] #[.pointer (some ⟨g,0,none⟩)]]
def A8{b:b1 j}{c:Nat}{d:List j}(a:Rd b i E F k c d):k<=maxLen:=ge a.cap a.max
def L5(o:dT b c a d g h)(l m:bG)(p q i:Nat)(r:bq)(s:h[i]? = some r):
 ay 308 [.agg (lW p a d g l m q).toArray,ad (i:Int)] b (λv w=>v= .returned (.tuple #[ad (hh l i),ad<|iC m i r.1.length])/\Ext [] b w):=by
 have C:=o.len
 have D:=(cH.1 s).1
 obtain⟨E,F,G,H,I,_,x,t⟩:=o.at_ s;have k:=t.len
 have y:=A8 t
 simp only[maxLen] at y
 refine ba func308 ntmps308 ?_;refine ap ?_;intro z J K;refine aI ?_;refine fg [0,1,2,3,4,5,6,7,8] 0 [[]] (ag b [] [aG z (lW p a d g l m q) 302]) mixed ak (λ_ e=>e.drew) (λ_ L=>dC)<|ap ?_;refine aO rfl (λA u=>(bE (q:=i) dy rfl rfl rfl bR aa aa aJ))<|av ?_;refine aO rfl (λA u=>(bb j3 rfl rfl (λM B=>by subst B;exact (u.ch (x 0 _ rfl) au)) aJ)) ?_;refine (aE) (λj=>?_) λj=>?_;refine (aE) (λf=>fT ?_) λf=>b6 ?_;exact λn e=>⟨by unfold hh iC;rw[aB j,aB f,k],e.ext⟩
 exact λn e=>⟨by unfold hh iC;rw[aB j,ai f,k],e.ext⟩
 refine (aE) (λf=>fT ?_) λf=>b6 ?_;exact λn e=>⟨by unfold hh iC;rw[ai j,aB f,k],e.ext⟩
 exact λn e=>⟨by unfold hh iC;rw[ai j,ai f,k],e.ext⟩
def sp(a:List aL):Nat->Nat
 | 0=>0
 | k+1=>if (a[k]?.map (·.half))=some 3 then sp a k else k+1
def Yc(h:Rd bW b c a d g G):
 ay 310 [.agg [.slice a d g,.bool I].toArray] b (λq j=>q= .returned (ad (sp G d:Int))/\Ext [] b j):=by
 have u:=h.len
 have r:=A8 h
 simp only[maxLen] at r
 refine ba func310 ntmps310 ?_;refine ap ?_;intro o v w;refine cn ?_;refine cd (ι:=Nat) (λi=>[(3,ad (i:Int)),(1,.pointer<|some ⟨o,0,none⟩)]) (λ_=>ag b [] [aG o [.slice a d g,.bool I] 39]) (λi=>i<=d/\sp G d=sp G i) (λi=>i) ?_ ?_;exact λb e=>⟨d,⟨cC _,rfl⟩,(ig rfl rfl),e⟩
 rintro i ⟨y,k⟩;refine aH ?_;refine bl 9 rfl (λl=>?_) λl=>y7 ?_;have z:0<i:=by have:=bg l;omega
 obtain⟨x,p⟩ : ∃x,G[i - 1]? = some x:=⟨G[i - 1]'aa,bD _⟩;obtain⟨A,B,_,s⟩:=h.at_ p;refine a6 ?_;refine bE (q:=(i - 1)) dj rfl rfl rfl bR aa aa<|ap ?_;refine bb bY rfl rfl (λj m=>m.ch (s 2 _ rfl) au)<|aI ?_;have f:sp G i=if x.half=3 then sp G (i - 1) else i:=by
  conv=>lhs;rw[show i=i - 1+1 by omega]
  rw[sp,p];simp only[o_,ek];rw[show i - 1+1=i by omega]
 refine (cj) (λn=>?_) λn=>?_;rw[aB n] at f
 refine a6 ?_;exact bv (i - 1) ⟨aa,k.trans f⟩ aa (Sub.cons (by rw[show ((i - 1 :Nat):Int)=(i:Int) - 1 by omega];rfl) b5) λj m=>m;rw[ai n] at f
 refine cn ?_;exact λt e=>⟨by rw[k,f],e.ext⟩
 intro t e;have C:=bm l
 obtain rfl:i=0:=by omega
 exact⟨by rw[k];rfl,e.ext⟩
def Yd{a:Nat}: ∀k,k<=a->td J a k=none
 | 0,_=>rfl
 | k+1,b=>by rw[td,aB aa]
def L6{k len:Nat}(a:0<=r.dL):0<=iC r k len/\iC r k len<=(len:Int):=by
 unfold iC;split <;> omega
def L7(k:Nat):0<=hh o k:=by
 unfold hh;split <;> omega
def Ye(A:dT b c a d g h)(i f:bG)(u v q o:Nat)(T:o<=d)(U:d<=1000000)(G:0<=f.dL):
 ay 307 [.agg (lW u a d g i f v).toArray,.agg [ad (q:Int),ad (o:Int)].toArray] b (λH p=>H= .returned (.agg (nK h i f q o).enc.toArray)/\Ext [] b p):=by
 have V:=A.len
 refine ba func307 ntmps307 ?_;refine ap ?_;intro w W X;refine av ?_;intro x Y Z;refine av ?_;intro z Za Zb;refine aI ?_;refine d9 (q:=1) underlying305 ic rfl rfl rfl bo aa<|aH ?_;refine cd (ι:=Nat) (λk=>[(5,ad<|(k:Int) - 1),(2,.pointer<|some ⟨w,0,none⟩),(3,.pointer<|some ⟨x,0,none⟩),(4,.pointer<|some ⟨z,0,none⟩)]) (λ_=>ag b [] [aG z [z0,z0] 44,aG x [ad (q:Int),ad (o:Int)] 305,aG w (lW u a d g i f v) 302]) (λk=>k<=o/\nK h i f q o=nK h i f q k) (λk=>k) ?_ ?_;exact λb r=>⟨o,⟨cC _,rfl⟩,(da rfl rfl rfl rfl),r⟩
 rintro k ⟨Zc,s⟩;refine a7 ?_;refine d9 (q:=0) underlying305 ic rfl rfl rfl bo aa ?_;refine (aE) (λI=>?_) λI=>cn ?_;obtain⟨e,rfl⟩ : ∃e,k=e+1:=⟨k - 1,aa⟩;rw[show (((e+1 :Nat):Int) - 1)=(e:Int) by omega];obtain⟨row,B⟩ : ∃row,h[e]? = some row:=⟨h[e]'aa,bD _⟩;obtain⟨Zd,Ze,J,Zf,Zg,_,K,C⟩:=A.at_ B;have Zh:=C.len
 have L:=A8 C
 simp only[maxLen] at L
 have M:mU h e=row.1:=by unfold mU;rw[B];rfl
 obtain⟨Zi,Zj⟩:=L6 (k:=e) (len:=row.1.length) G;have Zk:=L7 i e
 rw[nK,ai aa,M] at s
 refine aY ?_;refine bd (λp j=>L5 p c a d g h (A.ext j.ext au) i f u v e row B)<|dO ?_;refine cd (ι:=Nat) (λl=>[(8,ad<|(l:Int) - 1),(2,.pointer<|some ⟨w,0,none⟩),(3,.pointer<|some ⟨x,0,none⟩),(4,.pointer<|some ⟨z,0,none⟩),(5,ad (e:Int)),(6,ad<|hh i e)]) (λ_=>ag b [] [aG z [z0,z0] 44,aG x [ad (q:Int),ad (o:Int)] 305,aG w (lW u a d g i f v) 302]) (λl=>l<=J/\td row.1 (hh i e).toNat (iC f e row.1.length).toNat=td row.1 (hh i e).toNat l) (λl=>l) ?_ ?_;exact λb r=>⟨(iC f e row.1.length).toNat,⟨aa,rfl⟩,Sub.cons (by rw[show (((iC f e row.1.length).toNat:Nat):Int)=iC f e row.1.length by omega];rfl)<|en rfl rfl rfl rfl rfl,r⟩
 rintro l ⟨Zl,m⟩;refine (aE) (λN=>?_) λN=>bP ?_;obtain⟨n,rfl⟩ : ∃n,l=n+1:=⟨l - 1,aa⟩;rw[show (((n+1 :Nat):Int) - 1)=(n:Int) by omega];obtain⟨y,F⟩ : ∃y,row.1[n]? = some y:=⟨row.1[n]'aa,bD _⟩;obtain⟨Zm,Zn,_,O⟩:=C.at_ F;rw[td,ai aa,F] at m
 refine a6 ?_;refine bE (q:=e) dy rfl rfl rfl bR aa aa<|av ?_;refine bb j3 rfl rfl (λp j=>j.ch (K 0 _ rfl) au)<|av ?_;refine bE (q:=n) dj rfl rfl rfl bR aa aa<|cE gh rfl rfl (rfl) (λp j P Q R=>j.ch (O P Q R) au)<|av ?_;intro Zo Zp Zq;refine a6 ?_;refine bl 44 rfl (λD=>?_) λD=>dO ?_;refine (aE) (λE=>gR ?_) λE=>aY ?_;intro S r;have t:mV y=true:=by unfold mV;rw[dK];exact⟨D,bI E⟩
 rw[show ((some y).map mV).getD false=mV y from rfl,t,aB rfl] at m
 rw[m] at s
 exact⟨by rw[s];rfl,r.ext⟩;have t:mV y=false:=by unfold mV;rw[bJ E,Bool.and_false]
 rw[show ((some y).map mV).getD false=mV y from rfl,t,ai aW] at m
 exact bv n ⟨aa,m⟩ aa b5 λp j=>j.rem bH.head;have t:mV y=false:=by unfold mV;rw[D,Bool.false_and]
 rw[show ((some y).map mV).getD false=mV y from rfl,t,ai aW] at m
 exact bv n ⟨aa,m⟩ aa b5 λp j=>j.rem bH.head;rw[Yd l aa] at m
 rw[m] at s
 exact bv e ⟨aa,s⟩ aa b5 λp j=>j;intro S r;rw[OV h i f q k aa] at s
 exact⟨by rw[s];rfl,r.ext⟩
def L8{L:List aL}{row:Nat}{en:bG}{a i:Nat}: ∀b,i<=b->(jI L row en a i).length<=(jI L row en a b).length
 | 0,c=>by rw[show i=0 by omega];exact cC _
 | b+1,c=>by
  by_cases d:i=b+1
  rw[d];exact cC _
  have:=L8 (L:=L) (row:=row) (en:=en) (a:=a) (i:=i) b aa
  rw[jI,b3];omega
def L9{rows:List bq}{fr to en:bG}{l0 i:Nat}: ∀a,i<=a->(kI rows fr to en l0 i).length<=(kI rows fr to en l0 a).length
 | 0,b=>by rw[show i=0 by omega];exact cC _
 | a+1,b=>by
  by_cases c:i=a+1
  rw[c];exact cC _
  have:=L9 (rows:=rows) (fr:=fr) (to:=to) (en:=en) (l0:=l0) (i:=i) a aa
  rw[kI,b3];omega
def yh(c a:bG)(d b:Nat):List UInt8:=kI h c a (nK h c a d b) d b++(if (b:Int) - 1<a.row then [10] else [])
def Yf(n z:Nat)(w:List rL)(g:Nat->List (Int × Int))(F:Rd mS b c a n z w)(Y:n<=100000)
 (I:g 0=[]) (J: ∀k r,w[k]? = some r->g (k+1)=pq (g k) k r.cont) (K: ∀k,k<=n->(g k).length<=k):
 ay 213 [.slice a n z] b (λo j=> ∃q,o= .returned q/\Ext [] b j/\j.ownsRow 0 305 2 q (g n).length (oJ.all<|g n)/\ ∀f,q.ownBlock=some f->b.heap.size<=f):=by
 refine ba func213 ntmps213 ?_;refine lz 305 2<|fT ?_;refine cd (ι:=Nat × Value × List (Int × Int)) (λe=>[(3,e.2.1),(7,.slice a n z),(8,ad (n:Int)),(9,ad (e.1 :Int))]) (λe=>ag b [] [own 305 2 e.2.1 e.2.2.length (oJ.all e.2.2)]) (λe=>e.1<=n/\e.2.2=g e.1/\ ∀f,e.2.1.ownBlock=some f->b.heap.size<=f) (λe=>n - e.1) ?_ ?_;exact λb x=>⟨(0,.slice none 0 0,[]),⟨b4 _,I.symm,by simp[Value.ownBlock]⟩,(da rfl rfl rfl rfl),x⟩
 rintro⟨k,q,d⟩ ⟨G,l,s⟩;dsimp only at G l s ⊢
 refine (aE) (λL=>?_) λL=>cn ?_;have M:k<n:=by omega
 obtain⟨r,H⟩ : ∃r,w[k]? = some r:=⟨w[k]'(by rw[F.len];exact M),bD _⟩;obtain⟨Z,Za,Zb,N⟩:=F.cells aa;have Zc:d.length<=k:=l▸K k G
 refine jd (v:=q) Has.head λZd Ze O Zf Zg Zh t=>?_;subst O;refine aU ?_;refine bE dy rfl rfl rfl bR bo aa<|cE gG rfl rfl ((mS.len r)) (λj i P Q R=>i.ch (N k r P Q H R) au)<|av ?_;intro Zi Zj Zk;refine ft ?_;have A:=J k r H
 refine bl 18 rfl (λB=>?_) λB=>?_;have C:=bg B
 refine aU ?_;refine cD rfl (λm=>?_) λm=>?_;obtain⟨f,rfl⟩:=t aa;obtain⟨p,y⟩ : ∃p,d[d.length - 1]? = some p:=⟨d[d.length - 1]'aa,bD _⟩;have S:=oJ.rx (j:=1) (a':=(p.1,(k:Int)+1)) (v:=ad<|(k:Int)+1) y aW rfl
 have u:pq d k r.cont=d.set (d.length - 1) (p.1,(k:Int)+1):=by
  rw[bD aa] at y
  simp only[ek] at y
  have v:d≠[]:=λo=>by subst o;simp at C
  have T:d.getLast?=some p:=by rw[yx v,List.getLast_eq_getElem,y]
  simp only[pq,T,m,if_true];rw[sH,aB aa,List.dropLast_eq_take,show d.length - 1+1=d.length by omega,uh]
 refine aU ?_;refine bE (q:=(d.length - 1)) uB rfl rfl rfl bo aa aa<|sQ (q:=1) underlying305 ic rfl rfl rfl aa aa ?_;refine mE (o:=(d.length - 1)*2+1) bY rfl rfl (by exact bC.tail bC.head) (by simp[Addr.add_lit]) rfl (by rw[oJ.eD];show _<d.length*2;omega) ?_;refine be ?_;refine bv (k+1,_,d.set (d.length - 1) (p.1,(k:Int)+1)) ⟨aa,by rw[A,<-l,u],s⟩ aa (da rfl rfl rfl rfl) λj i=>?_;have:=i.rem bH.head
 rw[show (d.length - 1)*2+1=(d.length - 1)*oJ.ax+1 from rfl,S] at this
 simpa using this
 have u:pq d k r.cont=d++[((k:Int),(k:Int)+1)]:=by
  have v:d≠[]:=λo=>by subst o;simp at C
  simp only[pq,yx v,m];rfl
 refine a6 ?_;intro U V W;refine hW uB rfl rfl rfl bx (λ_=>by exact fs) rfl (y4 rfl rfl) (by simp only[maxLen];omega) aa λD E=>?_;refine aY ?_;refine bv (k+1,D,d++[((k:Int),(k:Int)+1)]) ⟨aa,by rw[A,<-l,u],λf t=>by
  rcases E f t with h | h
  exact s f h;exact h.1⟩ aa (da rfl rfl rfl rfl) λj i=>?_
 have:=i.rem bH.head
 rw[b3,b1.iP];exact this;have C:=bm B
 refine aI ?_;refine cD rfl (λm=>?_) λm=>?_;exact absurd m aW;have u:pq d k r.cont=d++[((k:Int),(k:Int)+1)]:=by
  have v:d=[]:=jX aa
  subst v;rfl
 refine a6 ?_;intro U V W;refine hW uB rfl rfl rfl bx (λ_=>by exact fs) rfl (y4 rfl rfl) (by simp only[maxLen];omega) aa λD E=>?_;refine aY ?_;refine bv (k+1,D,d++[((k:Int),(k:Int)+1)]) ⟨aa,by rw[A,<-l,u],λf t=>by
  rcases E f t with h | h
  exact s f h;exact h.1⟩ aa (da rfl rfl rfl rfl) λj i=>?_
 have:=i.rem bH.head
 rw[b3,b1.iP];exact this;intro Zl x;have X:k=n:=by omega
 subst X;rw[<-l];exact⟨_,rfl,x.ext,x.has Has.head,s⟩
def Yg(k:dT b c a d g h)(l:d<=100000):
 ay 213 [.slice a d g] b (λm i=> ∃f,m= .returned f/\Ext [] b i/\i.ownsRow 0 305 2 f (l5 h d).length (oJ.all<|l5 h d)/\ ∀j,f.ownBlock=some j->b.heap.size<=j):=by
 obtain⟨n,o,p,_⟩:=k.jc;refine Yf b c a d g n (l5 h) o l rfl (λe q r=>?_) λe _=>Ca h e;have:pr h e=q.cont:=by
  have:=a_ (λs=>s[e]?) p
  simp only[fw,r,o_] at this
  unfold pr;rw[<-this];rfl
 rw[l5,this]
def Yh(a:j->List UInt8){L:List j}{i:Nat}: ((L.take i).flatMap a).length<=(L.flatMap a).length:=by
 conv=>rhs;rw[<-iJ i L,sw,b3]
 omega
def L_{rows:List bq}{fr to:bG}{s e:Int}{l0 l1:Nat}(a:max s fr.row=(l0:Int))(b: (l0:Int)<e)(c: (l0:Int)<=to.row)(d: (l1:Int)=if to.row<rows.length/\to.row+1<e then to.row+1 else e):
 jJ rows fr to (s,e)=yh rows fr to l0 l1:=by
 unfold jJ yh;dsimp only;rw[a,aB ⟨b,c⟩,<-d];rfl
def Yi{a:bG}{b:Int}(c: ¬(max m r.row<b/\max m r.row<=a.row)):jJ K r a (m,b)=[]:=ai c
