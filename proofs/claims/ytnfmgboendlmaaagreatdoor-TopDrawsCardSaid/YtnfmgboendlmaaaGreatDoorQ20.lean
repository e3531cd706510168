/- part 20 of the proof -/
import Derived.Test.YtnfmgboendlmaaaGreatDoorQ19
set_option linter.all false
namespace Go.Proofs.YtnfmgboendlmaaaGreatDoor.Mq
open RowKit Tryz
variable {i r s:Int}{o:Int × Int}{e:List (List Int)}{u:List Int}{f:Nat}{p:e6}(g:World)(b:Int)(l:Option (Int × Int))(a:List (List Int))(j:Nat->Prop)(d:List Int)(n:Int)(k:e6)(c:Nat)(h:Option Addr)(q:Int)(t:Int × Int)(m:Nat)
namespace cp
def kU :Nat:=if b=1 then 1 else if b=2 then 2 else if b=3 then 4 else if b=5\/b=6 then 16 else if b=7 then 32 else if b=8 then 64 else if b=9 then 128 else if b=53 then 512 else 0
def SA :ay 476 [ad b] g (λe f=>e= .returned (ad (kU b:Int))/\Ext [] g f):=by
 refine ba func476 ntmps476 ?_;refine (aE) (λh=>a6 ?_) λh=>?_;exact λc a=>⟨by rw[kU,aB<|show _ by omega];rfl,a.ext⟩
 refine (aE) (λi=>a6 ?_) λi=>?_;exact λc a=>⟨by rw[kU,ai<|show ¬_ by omega,aB<|show _ by omega];rfl,a.ext⟩
 refine (aE) (λj=>a6 ?_) λj=>?_;exact λc a=>⟨by rw[kU,ai<|show ¬_ by omega,ai<|show ¬_ by omega,aB<|show _ by omega];rfl,a.ext⟩
 refine (aE) (λd=>aA ?_) λd=>?_;refine e_ rfl ((bI d))<|a6 ?_;exact λc a=>⟨by rw[kU,ai<|show ¬_ by omega,ai<|show ¬_ by omega,ai<|show ¬_ by omega,aB<|show _ by omega];rfl,a.ext⟩
 refine (aE) (λk=>a6 ?_) λk=>?_;exact λc a=>⟨by rw[kU,ai<|show ¬_ by omega,ai<|show ¬_ by omega,ai<|show ¬_ by omega,aB<|show _ by omega];rfl,a.ext⟩
 refine (aE) (λl=>a6 ?_) λl=>?_;exact λc a=>⟨by rw[kU,ai<|show ¬_ by omega,ai<|show ¬_ by omega,ai<|show ¬_ by omega,ai<|show ¬_ by omega,aB<|show _ by omega];rfl,a.ext⟩
 refine (aE) (λm=>a6 ?_) λm=>?_;exact λc a=>⟨by rw[kU,ai<|show ¬_ by omega,ai<|show ¬_ by omega,ai<|show ¬_ by omega,ai<|show ¬_ by omega,ai<|show ¬_ by omega,aB<|show _ by omega];rfl,a.ext⟩
 refine (aE) (λn=>a6 ?_) λn=>?_;exact λc a=>⟨by rw[kU,ai<|show ¬_ by omega,ai<|show ¬_ by omega,ai<|show ¬_ by omega,ai<|show ¬_ by omega,ai<|show ¬_ by omega,ai<|show ¬_ by omega,aB<|show _ by omega];rfl,a.ext⟩
 refine (aE) (λo=>a6 ?_) λo=>be ?_;exact λc a=>⟨by rw[kU,ai<|show ¬_ by omega,ai<|show ¬_ by omega,ai<|show ¬_ by omega,ai<|show ¬_ by omega,ai<|show ¬_ by omega,ai<|show ¬_ by omega,ai<|show ¬_ by omega,aB<|show _ by omega];rfl,a.ext⟩
 exact λc a=>⟨by rw[kU,ai<|show ¬_ by omega,ai<|show ¬_ by omega,ai<|show ¬_ by omega,ai<|show ¬_ by omega,ai<|show ¬_ by omega,ai<|show ¬_ by omega,ai<|show ¬_ by omega,ai<|show ¬_ by omega];rfl,a.ext⟩
def lK :Nat:=if b=22 then 3 else if b=23 then 4 else if b=24 then 264 else if b=25 then 16 else if b=27 then 32 else if b=28 then 64 else if b=29 then 128 else if b=55 then 512 else 0
def SB :ay 477 [ad b] g (λd e=>d= .returned (ad (lK b:Int))/\Ext [] g e):=by
 refine ba func477 ntmps477 ?_;refine (aE) (λf=>a6 ?_) λf=>?_;exact λc a=>⟨by rw[lK,aB<|show _ by omega];rfl,a.ext⟩
 refine (aE) (λh=>a6 ?_) λh=>?_;exact λc a=>⟨by rw[lK,ai<|show ¬_ by omega,aB<|show _ by omega];rfl,a.ext⟩
 refine (aE) (λi=>a6 ?_) λi=>?_;exact λc a=>⟨by rw[lK,ai<|show ¬_ by omega,ai<|show ¬_ by omega,aB<|show _ by omega];rfl,a.ext⟩
 refine (aE) (λj=>a6 ?_) λj=>?_;exact λc a=>⟨by rw[lK,ai<|show ¬_ by omega,ai<|show ¬_ by omega,ai<|show ¬_ by omega,aB<|show _ by omega];rfl,a.ext⟩
 refine (aE) (λk=>a6 ?_) λk=>?_;exact λc a=>⟨by rw[lK,ai<|show ¬_ by omega,ai<|show ¬_ by omega,ai<|show ¬_ by omega,ai<|show ¬_ by omega,aB<|show _ by omega];rfl,a.ext⟩
 refine (aE) (λl=>a6 ?_) λl=>?_;exact λc a=>⟨by rw[lK,ai<|show ¬_ by omega,ai<|show ¬_ by omega,ai<|show ¬_ by omega,ai<|show ¬_ by omega,ai<|show ¬_ by omega,aB<|show _ by omega];rfl,a.ext⟩
 refine (aE) (λm=>a6 ?_) λm=>?_;exact λc a=>⟨by rw[lK,ai<|show ¬_ by omega,ai<|show ¬_ by omega,ai<|show ¬_ by omega,ai<|show ¬_ by omega,ai<|show ¬_ by omega,ai<|show ¬_ by omega,aB<|show _ by omega];rfl,a.ext⟩
 refine (aE) (λn=>a6 ?_) λn=>be ?_;exact λc a=>⟨by rw[lK,ai<|show ¬_ by omega,ai<|show ¬_ by omega,ai<|show ¬_ by omega,ai<|show ¬_ by omega,ai<|show ¬_ by omega,ai<|show ¬_ by omega,ai<|show ¬_ by omega,aB<|show _ by omega];rfl,a.ext⟩
 exact λc a=>⟨by rw[lK,ai<|show ¬_ by omega,ai<|show ¬_ by omega,ai<|show ¬_ by omega,ai<|show ¬_ by omega,ai<|show ¬_ by omega,ai<|show ¬_ by omega,ai<|show ¬_ by omega,ai<|show ¬_ by omega];rfl,a.ext⟩
def mi :Nat:=if d[1]? = some 0 then 0 else if d[1]? = some 2 then 256 else 8
def SC(f p:Nat)(d:List Int)(q:Rd ct g j h f p d)(v:f<=1000000):
 ay 437 [.slice h f p] g (λt i=>t= .returned (ad (mi d:Int))/\Ext [] g i):=by
 have w:=q.len
 refine ba func437 ntmps437 ?_;refine cn ?_;refine bl 7 rfl (λk=>?_) λk=>?_;have u:=bg k
 obtain⟨x,c⟩ : ∃x,d[1]? = some x:=⟨d[1]'aa,bD _⟩;obtain⟨y,r,_,s⟩:=q.at_ c;refine ap ?_;refine bE (q:=1) eE rfl rfl rfl r aa aa<|av ?_;refine bb bY rfl rfl (λi l=>l.ch (s 0 _ rfl)<|by simp[aK]) ?_;refine (aE) (λe=>a6 ?_) λe=>aH ?_;exact λm a=>⟨by rw[mi,c,aB<|by rw[e]];rfl,a.ext⟩
 refine bl 17 rfl (λb=>?_) λb=>?_;have n:=bg b
 refine ap ?_;refine bE (q:=1) eE rfl rfl rfl r aa aa<|av ?_;refine bb bY rfl rfl (λi l=>l.ch (s 0 _ rfl)<|by simp[aK]) ?_;refine (aE) (λo=>a6 ?_) λo=>be ?_;exact λm a=>⟨by rw[mi,c,ai<|by simpa using e,aB<|by rw[o]];rfl,a.ext⟩
 exact λm a=>⟨by rw[mi,c,ai<|by simpa using e,ai<|by simpa using o];rfl,a.ext⟩
 have n:=bm b
 omega
 have u:=bm k
 have c:d[1]? = none:=hK aa
 refine dO ?_;refine bl 17 rfl (λb=>?_) λb=>?_;have n:=bg b
 omega
 have n:=bm b
 refine fT ?_;exact λm a=>⟨by rw[mi,c,ai au,ai au];rfl,a.ext⟩
def oZ :Value:=if n<=b/\b<n+8 then .tuple #[qL 1 (b - n),.bool true] else if q<=b/\b<q+8 then .tuple #[qL 1 (b - q+8),.bool true] else .tuple #[qL 0 0,.bool<|decide<|b=n+9]
def vu(m:0<=b/\b<=65535)(o:0<=n/\n<=1000)(p:0<=q/\q<=1000):
 ay 478 [ad b,ad n,ad q] g (λi j=>i= .returned (oZ b n q)/\Ext [] g j):=by
 refine ba func478 ntmps478 ?_;refine ap ?_;intro r s t;refine bP ?_;refine bl 12 rfl (λe=>?_) λe=>?_;have k:=bg e
 refine (aE) (λl=>cn ?_) λl=>aH ?_;refine iy results478 (c_.fx ib rfl bw rfl rfl) (c_.tmp rfl) λd a=>?_;exact⟨by rw[oZ,aB aa];rfl,a.ext⟩;refine bl 26 rfl (λc=>?_) λc=>?_;have f:=bg c
 refine (aE) (λh=>cZ ?_) λh=>dO ?_;refine iy results478 (c_.fx ib rfl bw rfl rfl) (c_.tmp rfl) λd a=>?_;exact⟨by rw[oZ,ai aa,aB aa];rfl,a.ext⟩;refine iy results478 (c_.fx ib rfl bw rfl rfl) (c_.tmp rfl) λd a=>?_;exact⟨by rw[oZ,ai aa,ai aa];rfl,a.ext⟩;have f:=bm c
 refine lB ?_;refine iy results478 (c_.fx ib rfl bw rfl rfl) (c_.tmp rfl) λd a=>?_;exact⟨by rw[oZ,ai aa,ai aa];rfl,a.ext⟩;have k:=bm e
 refine dO ?_;refine bl 26 rfl (λc=>?_) λc=>?_;have f:=bg c
 refine (aE) (λh=>cZ ?_) λh=>dO ?_;refine iy results478 (c_.fx ib rfl bw rfl rfl) (c_.tmp rfl) λd a=>?_;exact⟨by rw[oZ,ai aa,aB aa];rfl,a.ext⟩;refine iy results478 (c_.fx ib rfl bw rfl rfl) (c_.tmp rfl) λd a=>?_;exact⟨by rw[oZ,ai aa,ai aa];rfl,a.ext⟩;have f:=bm c
 refine lB ?_;refine iy results478 (c_.fx ib rfl bw rfl rfl) (c_.tmp rfl) λd a=>?_;exact⟨by rw[oZ,ai aa,ai aa];rfl,a.ext⟩
def lL :Nat:=d.foldl (λa b=>a*256+(max 0 b).toNat) 0
def ey :Option (Int × Int):=if ∀a∈d,a<=255 then some (if d.length=1 then 1 else 2,(lL d:Int)) else none
abbrev Dd :List Value:=[qL (l.getD (0,0)).1 (l.getD (0,0)).2,.bool l.isSome]
def SD(a:Int):lL (d++[a])=lL d*256+(max 0 a).toNat:=by simp[lL]
def SE{b:Nat}(a:b<256):f*256 ||| b=f*256+b:=by
 have:=Nat.two_pow_add_eq_or_of_lt (i:=8) (a:=f) (b:=b) a
 rw[show (2 :Nat) ^ 8=256 by rfl,rn] at this
 exact this.symm
def De(d:Option Addr)(b e:Nat)(L:List Int)(p:Rd ct g j d b e L)(A:b<=3):
 ay 475 [.slice d b e] g (λi k=>i= .returned (.tuple (Dd<|ey L).toArray)/\Ext [] g k):=by
 have B:=p.len
 refine ba func475 ntmps475 ?_;refine ap ?_;intro q C D;refine ft ?_;refine cd (ι:=Nat) (λa=>[(0,.slice d b e),(2,.pointer<|some ⟨q,0,none⟩),(4,ad (lL (L.take a):Int)),(7,.slice d b e),(8,ad (b:Int)),(9,ad (a:Int))]) (λ_=>ag g [] [aG q [z0,z0] 77]) (λa=>a<=b/\(∀x∈L.take a,x<=255)/\lL (L.take a)<256 ^ a) (λa=>b - a) ?_ ?_;exact λg c=>⟨0,⟨b4 _,by simp,by simp[lL]⟩,(jF rfl rfl rfl rfl rfl rfl),c⟩
 rintro a ⟨E,f,r⟩;refine (aE) (λv=>?_) λv=>?_;obtain⟨x,l⟩ : ∃x,L[a]? = some x:=⟨L[a]'aa,bD _⟩;obtain⟨F,G,_,w⟩:=p.at_ l;have s:=jH l
 refine aH ?_;refine bE (q:=a) eE rfl rfl rfl bR aa aa<|bb bY rfl rfl (λk m=>m.ch (w 0 _ rfl)<|by simp[aK]) ?_;refine (aE) (λn=>cZ ?_) λn=>?_;refine iy results475 (c_.fx ib rfl bw rfl rfl) (c_.tmp rfl) λt c=>⟨?_,c.ext⟩;rw[ey,ai λh=>absurd (h x<|cR l) aa];rfl
 have H:lL (L.take a)<65536:=by
  have:a<=2:=by omega
  refine qa r ?_;exact ge (sK aW this) aW
 have y: (max 0 x).toNat<256:=by omega
 have o:=SD (L.take a) x
 rw[<-s] at o
 refine a7 ?_;refine pj (r:=((lL (L.take a)*256 :Nat):Int)) rfl rfl rfl aW (by rw[show min (8 :Int).toNat IntKind.i64.bits=8 by rfl,show (2 :Int) ^ 8=256 by rfl,tw aa aa];omega) ?_;refine aA ?_;refine mO (r:=(lL (L.take<|a+1):Int)) rfl rfl rfl (or_eq (m:=lL (L.take a)*256) (n:=(max 0 x).toNat) rfl aa (show _<18446744073709551616 by omega) (show _<18446744073709551616 by omega)<|by rw[SE y,o,tw aa aa]) ?_;refine aY ?_;refine bv (a+1) ⟨aa,λz u=>?_,?_⟩ aa (jF rfl rfl rfl rfl rfl rfl) λk m=>m;rw[s] at u
 rcases dq.1 u with h | h
 exact f z h;rw[e0.1 h];omega
 rw[o,Nat.pow_succ];omega
 have i:L.take a=L:=eT aa
 rw[i] at f r ⊢
 refine (aE) (λn=>be ?_) λn=>bP ?_;refine iy results475 (c_.fx ib rfl bw rfl rfl) (c_.tmp rfl) λt c=>⟨?_,c.ext⟩;rw[ey,aB f,aB aa];rfl
 refine iy results475 (c_.fx ib rfl bw rfl rfl) (c_.tmp rfl) λt c=>⟨?_,c.ext⟩;rw[ey,aB f,ai aa];rfl
def qO :Option (Int × Int):=if d[1]? = some 5/\d.length=3 then ey (d.drop 2) else if d[1]? = some 2/\(d.length=5\/d.length=6) then ey (d.drop<|d.length - 3) else none
def IX(a m:Nat)(c:List Int)(f:Rd ct g j h a m c)(J:a<=1000000)(K:2<=a):
 ay 438 [.slice h a m] g (λA e=>A= .returned (.tuple (Dd<|qO c).toArray)/\Ext [] g e):=by
 have B:=f.len
 obtain⟨x,n⟩ : ∃x,c[1]? = some x:=⟨c[1]'aa,bD _⟩;obtain⟨L,s,_,t⟩:=f.at_ n;have C: (¬(x=5/\a=3))->(¬(x=2/\(a=5\/a=6)))->qO c=none:=λi k=>by
  rw[qO,n,ai λb=>i ⟨by simpa using b.1,aa⟩,ai λb=>k ⟨by simpa using b.1,aa⟩]
 have M:=f.cap
 have N:=f.max
 refine ba func438 ntmps438 ?_;refine ap ?_;intro o O P;refine aH ?_;refine mG ([(4,.bool<|decide<|x=5/\a=3),(0,.slice h a m),(2,.pointer<|some ⟨o,0,none⟩)]) (ag g [] [aG o [z0,z0] 77]) (aA ?_) ?_;refine bE (q:=1) eE rfl rfl rfl s aa aa<|bb bY rfl rfl (λe d=>d.ch (t 0 _ rfl)<|by simp[aK])<|aA ?_;refine bl 9 rfl (λp=>?_) λp=>?_;have D:=bg p
 refine a6 ?_;exact iQ (Sub.cons (a_ (λx=>some<|Value.bool x)<|by rw[iK];omega)<|ig rfl rfl) λ_ b=>b;have D:=bm p
 refine aH ?_;exact iQ (Sub.cons (a_ (λx=>some<|Value.bool x)<|by rw[eq_comm,fZ];omega)<|ig rfl rfl) λ_ b=>b;refine (aE) (λi=>?_) λi=>av ?_;obtain⟨y,u⟩ : ∃y,c[2]? = some y:=⟨c[2]'aa,bD _⟩;obtain⟨Q,E,_,F⟩:=f.at_ u;have G:c.drop 2=[y]:=by
  refine jY λv=>?_
  rw[ja];cases v with
  | zero=>simpa using u
  | succ v=>rw[hK aa];simp
 refine ap ?_;refine bE (q:=2) eE rfl rfl rfl E aa aa<|bb bY rfl rfl (λe d=>d.ch (F 0 _ rfl)<|by simp[aK])<|av ?_;intro R S T;refine bd (hargs:=rfl) (λe d=>De e _ _ 1 1 [y] (Rd.iR (E:=ct) d Has.head rfl aW) aW)<|a6 ?_;refine iy results438 (c_.fx ib rfl cz rfl rfl) (c_.tmp rfl) λw l=>⟨?_,l.ext⟩;rw[qO,n,aB ⟨by rw[i.1],aa⟩,G];rfl
 refine mG ([(21,.bool<|decide<|x=2/\(a=5\/a=6)),(0,.slice h a m),(2,.pointer<|some ⟨o,0,none⟩)]) (ag g [] [aG o [z0,z0] 77]) (aA ?_) ?_;refine bE (q:=1) eE rfl rfl rfl s aa aa<|bb bY rfl rfl (λe d=>d.ch (t 0 _ rfl)<|by simp[aK])<|aA ?_;refine bl 26 rfl (λk=>?_) λk=>?_;have H:=bg k
 refine aY ?_;refine bl 30 rfl (λq=>?_) λq=>?_;have I:=bg q
 refine aY ?_;exact iQ (Sub.cons (a_ (λx=>some<|Value.bool x)<|by rw[eq_comm,decide_eq_true_iff];omega)<|ig rfl rfl) λ_ b=>b;have I:=bm q
 refine bP ?_;exact iQ (Sub.cons (a_ (λx=>some<|Value.bool x)<|by rw[iK];omega)<|ig rfl rfl) λ_ b=>b;have H:=bm k
 refine bP ?_;exact iQ (Sub.cons (a_ (λx=>some<|Value.bool x)<|by rw[eq_comm,fZ];omega)<|ig rfl rfl) λ_ b=>b;refine (aE) (λr=>aH ?_) λr=>bP ?_;refine gp (a - 3) a eE rfl rfl (.inl ⟨_,_,rfl,rfl,aa⟩) (.inr ⟨rfl,rfl⟩) aa aa ?_;have z:=f.cut (p:=a - 3) (q:=a) aa aa
 rw[eT aa] at z
 refine bd (hargs:=rfl) (λe d=>De e _ _ _ _ (c.drop<|a - 3) (z.ext d.ext au) aa)<|a6 ?_;refine iy results438 (c_.fx ib rfl bw rfl rfl) (c_.tmp rfl) λw l=>⟨?_,l.ext⟩;rw[qO,n,ai λb=>i ⟨by simpa using b.1,aa⟩,aB ⟨by rw[r.1],aa⟩,B];rfl
 refine iy results438 (c_.fx ib rfl bw rfl rfl) (c_.tmp rfl) λw l=>⟨?_,l.ext⟩;rw[C i r];rfl
def jp :Nat:=if eG a (c+1)=5 then 1 else if eG a (c+1)=2 then 3 else 0
def m9 :List Int:=(List.range m).map λb=>eG a<|c+2+b
def SF :m9 a c (m+1)=m9 a c m++[eG a (c+2+m)]:=by simp[m9,List.range_succ]
def IY(m:Nat): (m9 a c m).length=m:=by simp[m9]
def SG :jp a c<=3:=by unfold jp;repeat (first | decide | split)
def kg :Option (Int × Int) × Nat:=
 if a.length<=c+1+jp a c then (none,a.length - 1 - c) else if jp a c=0 then (none,1) else (ey<|m9 a c<|jp a c,1+jp a c)
def IZ(i o:Nat)(b:List (List Int))(q:e3 g j h i o b)(r:r9 b)(a:Nat)(F:a<i):
 ay 439 [.slice h i o,ad (a:Int)] g (λu d=>u= .returned (.tuple [qL ((kg b a).1.getD (0,0)).1 ((kg b a).1.getD (0,0)).2,Value.bool (kg b a).1.isSome,Value.int .i64 ((kg b a).2 :Int)].toArray)/\Ext [] g d):=by
 have G:=q.len
 have H:=r.1
 have v:=SG b a
 refine ba func439 ntmps439 ?_;refine ap ?_;intro p I J;refine be ?_;refine mG ([(7,ad (jp b a:Int)),(0,.slice h i o),(1,ad (a:Int)),(4,.pointer<|some ⟨p,0,none⟩)]) (ag g [] [aG p [z0,z0] 77]) (aI ?_) ?_
 ·refine bd (hargs:=rfl) (λd e=>Dc d _ _ _ _ b (q.ext e.ext au) r (a+1) aa)<|a6 ?_
  focus (refine (cj) (λk=>?_) λk=>?_;refine a7 ?_;rw[jp,aB k];rotate_left;refine aH ?_;refine (cj) (λl=>?_) λl=>?_;refine a7 ?_;rw[jp,ai k,aB l];rotate_left;refine aA ?_;rw[jp,ai k,ai l];all_goals (exact iQ (da rfl rfl rfl rfl) λ_ w=>w))
 ·generalize s:jp b a=m at v
  refine (aE) (λk=>dO ?_) λk=>?_
  ·refine pe results439 (c_.fx ib rfl bw rfl rfl) (c_.tmp rfl) (c_.tmp rfl) λt n=>⟨?_,n.ext⟩
   rw[kg,s,aB aa];dsimp only;rw[show ((b.length - 1 - a:Nat):Int)=(i:Int) - 1 - (a:Int) by omega];rfl
  ·refine (aE) (λl=>be ?_) λl=>ap ?_
   ·refine pe results439 (c_.fx ib rfl bw rfl rfl) (c_.tmp rfl) (c_.tmp rfl) λt n=>⟨?_,n.ext⟩
    rw[kg,s,ai aa,aB aa];rfl
   ·refine lz 3 1<|b6 ?_
    refine cd (ι:=Nat × Value) (λc=>[(0,.slice h i o),(1,ad (a:Int)),(4,.pointer<|some ⟨p,0,none⟩),(7,ad (m:Int)),(8,c.2),(36,ad (m:Int)),(37,ad (c.1 :Int))]) (λc=>ag g [] [own 3 1 c.2 c.1 (ct.all<|m9 b a c.1),aG p [z0,z0] 77]) (λc=>c.1<=m) (λc=>m - c.1) ?_ ?_
    ·exact λd e=>⟨(0,.slice none 0 0),b4 _,(jg rfl rfl rfl rfl rfl rfl rfl),e⟩
    ·rintro⟨f,x⟩ y
     dsimp only at y ⊢
     refine (aE) (λz=>ft ?_) λz=>?_
     ·refine bd (hargs:=rfl) (λd e=>Dc d _ _ _ _ b (q.ext e.ext au) r (a+2+f) aa)<|av ?_
      intro K L M;refine hW eE rfl rfl rfl bx (λ_=>by exact cJ) rfl (jE rfl) (by simp only[maxLen];omega) aa λA N=>?_;refine aY ?_;refine bv (f+1,A) bL bL (jg rfl rfl rfl rfl rfl rfl rfl) λd e=>?_;dsimp only;rw[SF,b1.iP ct];exact e
     ·have B:f=m:=by omega
      subst B;refine jd (v:=x) Has.head λO P C Q R S T=>?_;subst C;refine aY ?_;refine bd (v:= .tuple (Dd<|ey<|m9 b a f).toArray) (λd e=>?_) ?_
      ·obtain⟨U,V,D,E⟩:=Rd.ho (E:=ct) (e.has Has.head)<|IY b a f
       cases D
       exact De d _ _ _ _ _ E aa
      refine a7 ?_;intro W X Y;refine fa ?_;refine pe results439 (c_.fx ib rfl cW rfl rfl) (c_.tmp rfl) (c_.tmp rfl) λt n=>⟨?_,n.ext⟩;rw[kg,s,ai aa,ai aa];dsimp only;rw[show ((1+f:Nat):Int)=1+(f:Int) by omega];rfl
def Df(a:f<e.length):f+(kg e f).2+1<=e.length:=by
 unfold kg;split
 dsimp only;omega
 split
 dsimp only;omega
 dsimp only;omega
def jq :Int × Int:=if n<=b/\b<n+8 then (1,b - n) else if q<=b/\b<q+8 then (1,b - q+8) else if b=n+9 then (0,0) else t
def kh :Nat:=c &&& (18446744073709551615 - m)
def xy(n a:Nat):kh n a<=n:=uo
def xz{a:Nat}(b:f<1024)(c:a<1024):f ||| a<1024:=ou (n:=10) b c
def Dg{a f:Nat}(b:a<1024)(c:f<1024):IntKind.i64.wrap ((BitVec.ofInt IntKind.i64.bits (a:Int) &&& ~~~ BitVec.ofInt IntKind.i64.bits (f:Int)).toNat:Int)=(kh a f:Int):=
 BU (m:=a) (n:=f) rfl rfl (show a<18446744073709551616 by omega) (show f<18446744073709551616 by omega) (tw (ri _) (by have:=xy a f;unfold kh at this;show ((a &&& (18446744073709551616 - 1 - f):Nat):Int)<_;rw[show 18446744073709551616 - 1 - f=18446744073709551615 - f by omega];omega))
def Dh{a f:Nat}(b:a<1024)(c:f<1024):IntKind.i64.wrap ((BitVec.ofInt IntKind.i64.bits (a:Int) ||| BitVec.ofInt IntKind.i64.bits (f:Int)).toNat:Int)=((a ||| f:Nat):Int):=
 or_eq (m:=a) (n:=f) rfl rfl (show a<18446744073709551616 by omega) (show f<18446744073709551616 by omega) (tw (ri _) (by have:=xz b c;omega))
def I0 :kU b<1024:=by unfold kU;repeat (first | decide | split)
def SH :lK b<1024:=by unfold lK;repeat (first | decide | split)
def qP :Nat:=if b=21 then kh c 8 ||| 256 else c
def I1(a:f<1024):qP b f<1024:=by
 unfold qP;split
 exact xz (ot (xy _ _) a) aW;exact a
def qQ :Nat:=kh (qP b c ||| kU b)<|lK b
def SI{n:Nat}(a:n<1024):qQ b n<1024:=ot (xy _ _)<|xz (I1 b a)<|I0 b
def fi:e6:=⟨0,0,0,0,0⟩
def o0 :e6:=if b=0 then fi else ⟨(jq b 30 90 (k.cM,k.fn)).1,(jq b 30 90 (k.cM,k.fn)).2,(jq b 40 100 (k.aq,k.aR)).1,(jq b 40 100 (k.aq,k.aR)).2,(qQ b k.bB.toNat:Int)⟩
def Di(e f:Int): (∃a c,oZ b n q= .tuple #[qL a c,.bool true]/\jq b n q (e,f)=(a,c))\/(∃a c,oZ b n q= .tuple #[qL a c,.bool false]/\jq b n q (e,f)=(e,f)):=by
 unfold oZ jq;split
 exact .inl ⟨_,_,rfl,rfl⟩;split
 exact .inl ⟨_,_,rfl,rfl⟩;by_cases d:b=n+9
 rw[aB d,bI d];exact .inl ⟨_,_,rfl,rfl⟩
 rw[ai d,bJ d];exact .inr ⟨_,_,rfl,rfl⟩
def SJ(aq aR:Int)(d:Nat)(k:d<1024)(a:Int)(f:0<=a/\a<=65535):
 ay 440 [r6 ⟨b,n,aq,aR,(d:Int)⟩,ad a] g (λz c=>z= .returned (r6<|o0 a ⟨b,n,aq,aR,(d:Int)⟩)/\Ext [] g c):=by
 refine ba func440 ntmps440 ?_;refine ap ?_;intro l J K;refine av ?_;intro m L M;refine (aE) (λo=>a6 ?_) λo=>ap ?_
 ·exact λA i=>⟨by rw[o0,aB o];rfl,i.ext⟩
 ·refine mG ([(1,ad a),(2,.pointer<|some ⟨l,0,none⟩),(4,.pointer<|some ⟨m,0,none⟩)]) (ag g [] [aG m [z0,z0,z0,z0,z0] 79,aG l [ad b,ad n,ad aq,ad aR,ad (qP a d:Int)] 79]) (aH ?_) ?_
  ·focus (refine (cj) (λp=>?_) λp=>?_;refine ap ?_;refine uG (r:=(kh d 8 :Int)) rfl rfl rfl (Dg (f:=8) k aW) ?_;refine mO (r:=((kh d 8 ||| 256 :Nat):Int)) rfl rfl rfl (Dh (f:=256) (ot (xy _ _) k) aW)<|ap ?_;rw[qP,aB p];rotate_left;refine av ?_;rw[qP,ai p];all_goals (exact iQ (ed rfl rfl rfl) λ_ h=>h))
  ·have w:=I1 a k
   have x:=I0 a
   have B:=SH a
   refine aA ?_;refine fg [0,1,2,5] 3 [[(3,false,[4]),(6,false,[7,8]),(9,true,[])]] (ag g [] [aG m [z0,z0,z0,z0,z0] 79,aG l [ad b,ad n,ad aq,ad aR,ad (qP a d:Int)] 79]) mixed ak (λ_ i=>i.drew) (λ_ h=>dC)<|aH ?_;refine bF (SA · a)<|cv (λ_=>True) (λ_ h=> .inr dC) (λ_ h=>bh) ?_;refine aO rfl (λC D=>(mO (r:=((qP a d ||| kU a:Nat):Int)) rfl rfl rfl (Dh w x) aJ))<|aA ?_;refine bF (SB · a)<|cv (λ_=>True) (λ_ h=> .inr ⟨.inr dC,bh⟩) (λ_ h=>bh) ?_;refine aO rfl (λC D=>(uG (r:=(qQ a d:Int)) rfl rfl rfl (Dg (xz w x) B) aJ))<|b6 ?_;focus ((rcases Di a 30 90 b n with ⟨E,F,q,y⟩ | ⟨E,F,q,y⟩);(focus refine bd (hargs:=rfl) (λc _=>q▸vu c a 30 90 f aW aW) ?_;refine a7 ?_;intro G H I;refine gR ?_;(rcases Di a 40 100 aq aR with ⟨r,s,e,j⟩ | ⟨r,s,e,j⟩);refine bd (hargs:=rfl) (λc _=>e▸vu c a 40 100 f aW aW) ?_;refine a7 ?_;intro t u v;refine lB ?_;rotate_left;refine bd (hargs:=rfl) (λc _=>e▸vu c a 40 100 f aW aW) ?_;refine a7 ?_;intro t u v;refine gR ?_);rotate_left 2;refine bd (hargs:=rfl) (λc _=>q▸vu c a 30 90 f aW aW) ?_;refine a7 ?_;intro G H I;refine fa ?_;(rcases Di a 40 100 aq aR with ⟨r,s,e,j⟩ | ⟨r,s,e,j⟩);refine bd (hargs:=rfl) (λc _=>e▸vu c a 40 100 f aW aW) ?_;refine a7 ?_;intro t u v;refine lB ?_;rotate_left;refine bd (hargs:=rfl) (λc _=>e▸vu c a 40 100 f aW aW) ?_;refine a7 ?_;intro t u v;refine gR ?_;all_goals (intro A i;exact⟨by rw[o0,ai o,y,j];rfl,i.ext⟩))
def nY :e6:=match l with
 | none=>k
 | some (a,c)=>if b=38 then ⟨a,c,k.aq,k.aR,k.bB⟩ else ⟨k.cM,k.fn,a,c,k.bB⟩
def gc :Option (Int × Int) × Nat:=if 1<(a.getD c []).length then (qO<|a.getD c [],0) else kg a c
def dZ(b:e6):e6 × Nat:=
 if eG a c=4 then (⟨b.cM,b.fn,b.aq,b.aR,((kh b.bB.toNat 264 ||| mi (a.getD c []):Nat):Int)⟩,c+1)
 else if eG a c=38\/eG a c=48 then (nY (eG a c) (gc a c).1 b,c+(gc a c).2+1)
 else (o0 (eG a c) b,c+1)
def Dj(b:e6):c<(dZ a c b).2:=by
 unfold dZ;split
 exact Nat.lt_succ_self _;split
 dsimp only;omega
 exact Nat.lt_succ_self _
def gJ(a:List (List Int))(b:Nat)(c:e6):e6:=if b<a.length then gJ a (dZ a b c).2 (dZ a b c).1 else c
termination_by a.length - b
decreasing_by have:=Dj a b c;omega
def I2(a:f<e.length):f+(gc e f).2+1<=e.length:=by
 unfold gc;split
 dsimp only;omega
 exact Df a
def SK :mi d<1024:=by unfold mi;repeat (first | decide | split)
def xA :Prop:=0<=k.bB/\k.bB<1024
def SL(a:xA p):xA (o0 i p):=by
 unfold o0;split
 exact⟨oj 0,by show (0 :Int)<1024;decide⟩;have:=SI i (n:=p.bB.toNat) (by have:=a.1;have:=a.2;omega)
 constructor <;> dsimp only <;> omega
def pE{gs:List (List Int)}{i:Nat}{b:e6}{j:Nat}(a:i<gs.length)(c:dZ gs i p=(b,j)):gJ gs i p=gJ gs j b:=by
 rw[gJ,aB a,c]
def xB{a:e6}(b:e.length<=f):gJ e f a=a:=by
 rw[gJ,ai aa]
def SM(o:World)(V:Nat->Prop)(w:Option Addr)(p x:Nat)(a:List (List Int))(y:e3 o V w p x a)(t:r9 a)(z:e6)(W:xA z):
 ay 371 [r6 z,.slice w p x] o (λX c=>X= .returned (r6<|gJ a 0 z)/\Ext [] o c):=by
 have Zg:=y.len
 have Zh:=t.1
 refine ba func371 ntmps371 ?_;refine ap ?_;intro q Zi Zj;refine av ?_;intro r Zk Zl;refine a6 ?_;refine cd (ι:=Nat × e6) (λh=>[(1,.slice w p x),(2,.pointer<|some ⟨q,0,none⟩),(4,.pointer<|some ⟨r,0,none⟩),(5,ad (h.1 :Int))]) (λh=>ag o [] [aG r [z0,z0,z0,z0,z0] 79,aG q [ad h.2.cM,ad h.2.fn,ad h.2.aq,ad h.2.aR,ad h.2.bB] 79]) (λh=>h.1<=p/\xA h.2/\gJ a h.1 h.2=gJ a 0 z) (λh=>p - h.1) ?_ ?_
 ·exact λc b=>⟨(0,z),⟨b4 _,W,rfl⟩,(da rfl rfl rfl rfl),b⟩
 ·rintro⟨i,Y⟩ ⟨Z,l,n⟩
  obtain⟨e,f,aq,aR,R⟩:=Y;obtain⟨d,rfl⟩ : ∃m:Nat,R=m:=⟨R.toNat,by have:=l.1;dsimp only at this;omega⟩;have H:d<1024:=by have:=l.2;dsimp only at this;omega
  dsimp only at Z n ⊢
  refine (aE) (λZa=>?_) λZa=>cn ?_
  ·have k:i<a.length:=by omega
   obtain⟨g,I⟩ : ∃g,a[i]? = some g:=⟨a[i]'k,bD _⟩;have A:a.getD i []=g:=by rw[fY,I];rfl
   obtain⟨Zm,Zn,Zo,Zp,Zq,_,B,F⟩:=y.at_ I;have Zr:=F.len
   have Zs:=(t.2 g<|cR I).2.1
   have Zb:=Sz t i
   refine aY ?_;refine bd (hargs:=rfl) (λc b=>Dc c _ _ _ _ a (y.ext b.ext au) t i aa) ?_;refine (aE) (λC=>?_) λC=>?_
   ·have S:=SK g
    have T:kh d 264<1024:=ot (xy _ _) H
    refine fg [0,1,2,3,4,5,6] 2 [[(7,false,[8,9]),(10,true,[])]] (ag o [] [aG r [z0,z0,z0,z0,z0] 79,aG q [ad e,ad f,ad aq,ad aR,ad (d:Int)] 79]) mixed ak (λ_ J=>J.drew) (λ_ u=>dC)<|aA ?_;refine aO rfl (λK G=>(uG (r:=(kh d 264 :Int)) rfl rfl rfl (Dg (f:=264) H aW) aJ))<|aA ?_;refine aO rfl (λK G=>(bE (q:=i) l1 rfl rfl rfl bR aa aa aJ)) ?_;refine aO rfl (λK G=>(bb jD rfl rfl (λZt Zc=>by subst Zc;exact (G.ch B<|by simp[aK])) aJ)) ?_;refine aA ?_;refine bd (hargs:=rfl) (λc b=>SC c _ _ _ _ g (F.ext b.ext au) aa)<|cv (λ_=>True) (λ_ u=> .inr dC) (λ_ u=>bh) ?_;refine aO rfl (λK G=>(mO (r:=((kh d 264 ||| mi g:Nat):Int)) rfl rfl rfl (Dh T S) aJ))<|dO ?_;have j:dZ a i ⟨e,f,aq,aR,(d:Int)⟩=(⟨e,f,aq,aR,((kh d 264 ||| mi g:Nat):Int)⟩,i+1):=by
     rw[dZ,aB C,A];rfl
    have Zu:=xz T S
    refine bv (i+1,⟨e,f,aq,aR,((kh d 264 ||| mi g:Nat):Int)⟩) ⟨by dsimp only;omega,⟨by dsimp only;omega,by dsimp only;omega⟩,by dsimp only;rw[<-pE k j];exact n⟩ bL (da rfl rfl rfl rfl) λc b=>b
   ·refine (aE) (λv=>aA ?_) λv=>?_
    ·refine e_ rfl ((bI v))<|a7 ?_
     intro D Zd Ze;refine aI ?_;refine mG ([(1,.slice w p x),(2,.pointer<|some ⟨q,0,none⟩),(4,.pointer<|some ⟨r,0,none⟩),(5,ad ((i+(gc a i).2 :Nat):Int)),(6,ad<|eG a i),(7,.pointer<|some ⟨D,0,none⟩),(8,.bool (gc a i).1.isSome)]) (ag o [] [aG D [ad ((gc a i).1.getD (0,0)).1,ad ((gc a i).1.getD (0,0)).2] 77,aG r [z0,z0,z0,z0,z0] 79,aG q [ad e,ad f,ad aq,ad aR,ad (d:Int)] 79]) (a7 ?_) ?_
     ·refine bE (q:=i) l1 rfl rfl rfl bR aa aa<|bb jD rfl rfl (λc b=>b.ch B<|by simp[aK])<|a7 ?_
      focus (refine (cj) (λL=>?_) λL=>?_;refine ap ?_;refine bE (q:=i) l1 rfl rfl rfl bR aa aa ?_;refine bb jD rfl rfl (λc b=>b.ch B<|by simp[aK]) ?_;refine bd (hargs:=rfl) (λc b=>IX c _ _ _ _ g (F.ext b.ext au) aa aa)<|aH ?_;(have s:gc a i=(qO g,0):=by rw[gc,A,aB aa]);rw[s];rotate_left;refine a6 ?_;refine bd (hargs:=rfl) (λc b=>IZ c _ _ _ _ a (y.ext b.ext au) t i aa) ?_;have Zf:=Df k;refine dO ?_;(have s:gc a i=kg a i:=by rw[gc,A,ai aa]);rw[s,Int.natCast_add];all_goals (exact iQ (jg rfl rfl rfl rfl rfl rfl rfl) λ_ u=>u))
     ·have E:=I2 k
      have j:dZ a i ⟨e,f,aq,aR,(d:Int)⟩=(nY (eG a i) (gc a i).1 ⟨e,f,aq,aR,(d:Int)⟩,i+(gc a i).2+1):=by
       rw[dZ,ai C,aB aa]
      generalize gc a i=M at E j
      obtain⟨N,m⟩:=M;dsimp only at E j ⊢
      cases N with
      | none=>
       refine GP ?_;refine bv (i+m+1,⟨e,f,aq,aR,(d:Int)⟩) ⟨by dsimp only;omega,l,by dsimp only;rw[<-n,pE k j];rfl⟩ bL (da rfl rfl rfl rfl) λc b=>b.rem bH.head
      | some O=>
       obtain⟨P,Q⟩:=O;refine cn ?_;refine e_ rfl ((bI v)) ?_;refine ft ?_;refine ff rfl ((bJ aa)) ?_;refine a6 ?_;refine bv (i+m+1,⟨P,Q,aq,aR,(d:Int)⟩) ⟨by dsimp only;omega,⟨l.1,l.2⟩,by dsimp only;rw[<-n,pE k j];simp only[nY,aB v]⟩ bL (da rfl rfl rfl rfl) λc b=>b.rem bH.head
    ·refine (aE) (λU=>a7 ?_) λU=>ap ?_
     ·intro D Zd Ze
      refine aI ?_;refine mG ([(1,.slice w p x),(2,.pointer<|some ⟨q,0,none⟩),(4,.pointer<|some ⟨r,0,none⟩),(5,ad ((i+(gc a i).2 :Nat):Int)),(6,ad<|eG a i),(7,.pointer<|some ⟨D,0,none⟩),(8,.bool (gc a i).1.isSome)]) (ag o [] [aG D [ad ((gc a i).1.getD (0,0)).1,ad ((gc a i).1.getD (0,0)).2] 77,aG r [z0,z0,z0,z0,z0] 79,aG q [ad e,ad f,ad aq,ad aR,ad (d:Int)] 79]) (a7 ?_) ?_
      ·refine bE (q:=i) l1 rfl rfl rfl bR aa aa<|bb jD rfl rfl (λc b=>b.ch B<|by simp[aK])<|a7 ?_
       focus (refine (cj) (λL=>?_) λL=>?_;refine ap ?_;refine bE (q:=i) l1 rfl rfl rfl bR aa aa ?_;refine bb jD rfl rfl (λc b=>b.ch B<|by simp[aK]) ?_;refine bd (hargs:=rfl) (λc b=>IX c _ _ _ _ g (F.ext b.ext au) aa aa)<|aH ?_;(have s:gc a i=(qO g,0):=by rw[gc,A,aB aa]);rw[s];rotate_left;refine a6 ?_;refine bd (hargs:=rfl) (λc b=>IZ c _ _ _ _ a (y.ext b.ext au) t i aa) ?_;have Zf:=Df k;refine dO ?_;(have s:gc a i=kg a i:=by rw[gc,A,ai aa]);rw[s,Int.natCast_add];all_goals (exact iQ (jg rfl rfl rfl rfl rfl rfl rfl) λ_ u=>u))
      ·have E:=I2 k
       have j:dZ a i ⟨e,f,aq,aR,(d:Int)⟩=(nY (eG a i) (gc a i).1 ⟨e,f,aq,aR,(d:Int)⟩,i+(gc a i).2+1):=by
        rw[dZ,ai C,aB aa]
       generalize gc a i=M at E j
       obtain⟨N,m⟩:=M;dsimp only at E j ⊢
       cases N with
       | none=>
        refine GP ?_;refine bv (i+m+1,⟨e,f,aq,aR,(d:Int)⟩) ⟨by dsimp only;omega,l,by dsimp only;rw[<-n,pE k j];rfl⟩ bL (da rfl rfl rfl rfl) λc b=>b.rem bH.head
       | some O=>
        obtain⟨P,Q⟩:=O;refine cn ?_;refine ff rfl ((bJ v)) ?_;refine cn ?_;refine e_ rfl ((bI U)) ?_;refine cn ?_;refine bv (i+m+1,⟨e,f,P,Q,(d:Int)⟩) ⟨by dsimp only;omega,⟨l.1,l.2⟩,by dsimp only;rw[<-n,pE k j];simp only[nY,ai v]⟩ bL (da rfl rfl rfl rfl) λc b=>b.rem bH.head
     ·refine bF (SJ · e f aq aR d H (eG a i) Zb)<|be ?_
      have j:dZ a i ⟨e,f,aq,aR,(d:Int)⟩=(o0 (eG a i) ⟨e,f,aq,aR,(d:Int)⟩,i+1):=by
       rw[dZ,ai C,ai aa]
      refine bv (i+1,o0 (eG a i) ⟨e,f,aq,aR,(d:Int)⟩) ⟨by dsimp only;omega,SL l,by dsimp only;rw[<-n,pE k j]⟩ bL (da rfl rfl rfl rfl) λc b=>b
  ·intro Zv J
   rw[<-n,xB aa];exact⟨rfl,J.ext⟩
def af0 :lL [b]=(max 0 b).toNat:=by simp[lL]
def SN :lL [b,n,q]=((max 0 b).toNat*256+(max 0 n).toNat)*256+(max 0 q).toNat:=by simp[lL]
def I3(a:i<=255):ey [i]=some (1,max 0 i):=by
 rw[ey,aB<|by simpa using a,aB bo,af0];congr 2;omega
def SO(a: ¬i<=255):ey [i]=none:=by
 rw[ey,ai<|by simpa using a]
def I4(a:i<=255)(b:r<=255)(c:s<=255):ey [i,r,s]=some (2,65536*max 0 i+256*max 0 r+max 0 s):=by
 rw[ey,aB<|by simp;omega,ai au,SN];congr 2;omega
def SP(a: ¬(i<=255/\r<=255/\s<=255)):ey [i,r,s]=none:=by
 rw[ey,ai<|by simpa using a]
def SQ: ∀n,n<1024->kh n 0=n:=by decide+kernel
def SR{v:Int}{n:Nat}(a:n<1024)(d:v≠1/\v≠2/\v≠3/\v≠5/\v≠6/\v≠7/\v≠8/\v≠9/\v≠21/\v≠22/\v≠23/\v≠24/\v≠25/\v≠27/\v≠28/\v≠29/\v≠53/\v≠55):qQ v n=n:=by
 have b:kU v=0:=by unfold kU;repeat (rw[ai aa])
 have c:lK v=0:=by unfold lK;repeat (rw[ai aa])
 rw[qQ,b,c,qP,ai aa,Nat.or_zero,SQ n a]
def m_ :Bool:=decide (c<1024) && !(bj.iF c 8 && bj.iF c 256)
def tD(aq aR:Int)(a:Nat):bj.ez ⟨b,n,aq,aR,(a:Int)⟩=(bj.ee b n && (bj.ee aq aR && m_ a)):=by
 unfold bj.ez m_;dsimp only;refine a_ (λd=>bj.ee b n && (bj.ee aq aR && d)) ?_;rw[gw];by_cases c:a<1024
 rw[bI c,Bool.true_and];cases e:bj.iF a 8 <;> cases f:bj.iF a 256 <;> simp <;> omega
 rw[bJ c,Bool.false_and,fZ];omega
def Dk:List Int:=[1,2,3,5,6,7,8,9,53,21,22,23,24,25,27,28,29,55]
def SS: ∀b∈Dk,∀a,a<1024->m_ a=true->m_ (qQ b a)=true:=by decide+kernel
def ST: ∀b∈[0,8,256],∀a,a<1024->m_ a=true->m_ (kh a 264 ||| b)=true:=by decide+kernel
def z_(a:m_ f=true):f<1024:=by
 simp only[m_,dK,eQ] at a
 exact a.1
def SU(a:m_ f=true):m_ (qQ b f)=true:=by
 by_cases c:b∈Dk
 exact SS b c f (z_ a) a;simp only[Dk,eJ,o9,or_false,not_or] at c
 rw[SR (v:=b) (z_ a) aa];exact a
def SV(a:m_ f=true):m_ (kh f 264 ||| mi d)=true:=by
 refine ST _ ?_ f (z_ a) a;unfold mi;split
 simp
 split <;> simp
def Dl(a:0<=i/\i<256):bj.ee 1 i=true:=by unfold bj.ee;exact bI aa
def SW(a:0<=i/\i<16777216):bj.ee 2 i=true:=by unfold bj.ee;exact bI aa
def SX:bj.ee 0 0=true:=by unfold bj.ee;exact bI aa
def Dm(c:u.length=1\/u.length=3)(a:ey u=some o):bj.ee o.1 o.2=true:=by
 rcases c with c | c
 match u,c with
 | [d],_=>
  by_cases b:d<=255
  rw[I3 b] at a;cases a;exact Dl bL
  rw[SO b] at a;cases a
 match u,c with
 | [d,e,f],_=>
  by_cases b:d<=255/\e<=255/\f<=255
  rw[I4 b.1 b.2.1 b.2.2] at a;cases a;exact SW bL
  rw[SP b] at a;cases a
def SY(a: (gc e f).1=some o):bj.ee o.1 o.2=true:=by
 unfold gc at a
 split at a
 dsimp only at a
 unfold qO at a
 split at a
 rename_i c;exact Dm (.inl<|by rw[fL];omega) a;split at a
 rename_i c;exact Dm (.inr<|by rw[fL];omega) a;cases a
 unfold kg at a
 split at a
 cases a
 split at a
 cases a
 rename_i c b;refine Dm ?_ a;rw[IY];unfold jp at b ⊢
 split
 exact .inl rfl;split
 exact .inr rfl;rename_i d g;rw[ai d,ai g] at b;exact absurd rfl b
def I5{a b:Int}(c:bj.ee a b=true)(d:0<=s):bj.ee (jq i r s (a,b)).1 (jq i r s (a,b)).2=true:=by
 unfold jq;split
 exact Dl bL;split
 exact Dl bL;split
 exact SX;exact c
def SZ(b:bj.ez p=true):bj.ez (dZ e f p).1=true:=by
 obtain⟨k,l,aq,aR,g⟩:=p;have n:0<=g:=by
  simp only[bj.ez,dK,eQ] at b
  exact b.2.2.1
 obtain⟨o,rfl⟩ : ∃m:Nat,g=m:=⟨g.toNat,aa⟩;rw[tD,dK,dK] at b
 obtain⟨c,d,a⟩:=b;unfold dZ;split
 dsimp only;rw[tD,c,d,gw,SV _ a];rfl
 split
 dsimp only;unfold nY;cases i: (gc e f).1 with
 | none=>dsimp only;rw[tD,c,d,a];rfl
 | some j=>
  obtain⟨q,r⟩:=j;have h:=SY i
  dsimp only at h ⊢
  split
  rw[tD,h,d,a];rfl
  rw[tD,c,h,a];rfl
 dsimp only;unfold o0;split
 decide+kernel
 dsimp only;rw[tD,I5 c aa,I5 d aa,gw,SU _ a];rfl
def I6 : ∀(m a:Nat)(b:e6),e.length - a<=m->bj.ez b=true->bj.ez (gJ e a b)=true
 | m,a,b,f,c=>by
  by_cases d:a<e.length
  have g:=Dj e a b
  cases m with
  | zero=>omega
  | succ m=>
   rw[pE d (b:=(dZ e a b).1) (j:=(dZ e a b).2) rfl];exact I6 m _ _ aa<|SZ c
  rw[xB aa];exact c
def S0{a:e6}(b:bj.ez a=true):xA a:=by
 simp only[bj.ez,dK,eQ] at b
 exact⟨b.2.2.1,b.2.2.2.1⟩
