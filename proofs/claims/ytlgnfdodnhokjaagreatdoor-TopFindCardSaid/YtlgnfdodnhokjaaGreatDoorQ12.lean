/- part 12 of the proof -/
import Derived.Test.YtlgnfdodnhokjaaGreatDoorQ11
namespace Go.Proofs.YtlgnfdodnhokjaaGreatDoor.Mq
open Go Go.RowKit Go.Proofs
def Cut (l:fv) (f:aY→fv) (tail:fv):Prop:= ∀(a:Nat) (x:UInt8 × aY),l[a]? = some x→ ∃b,b≤a∧a≤b+36∧f x.2=l.drop b++tail
theorem Cut.nil (f:aY→fv) (tail:fv):Cut [] f tail:=λa x h=>by simp at h
theorem Cut.hK {l m tail:fv} {f:aY→fv} (h:Cut l f (m++tail)) (k:Cut m f tail):Cut (l++m) f tail:=λa x c=>by
 rcases ej a l.length with d | d
 rw[mA d] at c
 obtain⟨b,g,i,e⟩:=h a x c;exact⟨b,g,i,by rw[e,List.drop_append_of_le_length aa,ea]⟩;rw[kp d] at c
 obtain⟨b,g,i,e⟩:=k _ x c;exact⟨l.length+b,aa,aa,by rw[e,List.drop_append,show List.drop (l.length+b) l=[] from List.drop_eq_nil_of_le aa,lO,Nat.add_sub_cancel_left]⟩
def xB (L:List bh) (row:Nat) (en:aY) (k:Nat):fv:=match L[k]? with
 | some c=>mQ row en k c
 | none=>[]
theorem Gx (L:List bh) (row:Nat) (en:aY) (a:Nat): ∀k,a<k→e5 L row en a k=xB L row en a++e5 L row en (a+1) k
 | 0,h=>by omega
 | k+1,h=>by
  rw[e5,e5,ag aa];rcases ej a k with b | b
  rw[Gx L row en a k b,ag aa,ea];have e:k=a:=by omega
  subst e;rw[rh _ _ _ _ _ (bW _),rh _ _ _ _ _ aa,aw aa,lO,eu,eu];rfl
abbrev AO (rows:List bG) (en:aY) (k:Nat):fv:=e5 (dQ rows k) k en 0 (dQ rows k).length
def j2 (rows:List bG) (en:aY) (e:Nat):Nat→fv
 | 0=>[]
 | m+1=>AO rows en (e - (m+1))++j2 rows en e m
def whole (fr to:aY) (n k:Nat):Prop:=((k:Int)=fr.row→fr.cM≤0)∧to.row=n∧k<n
theorem whole.AP {fr to:aY} {n k:Nat} (h:whole fr to n k) (len:Nat): (eT fr k).toNat=0∧(fY to k len).toNat=len:=by
 obtain⟨a,c,d⟩:=h;unfold eT fY;constructor
 split
 rename_i b;have:=a b;omega
 rfl
 rw[ag aa];omega
theorem Gy (rows:List bG) (fr to en:aY) (l0 k:Nat) (h:l0≤k) (b:whole fr to rows.length k):gE rows fr to en l0 (k+1)=gE rows fr to en l0 k++AO rows en k:=by
 have a:=b.AP (dQ rows k).length
 rw[gE,ag aa,a.1,a.2]
theorem xC (rows:List bG) (en:aY) (e:Nat): ∀m,m≤e→j2 rows en (e+1) (m+1)=j2 rows en e m++AO rows en e
 | 0,_=>by simp[j2]
 | m+1,h=>by
  rw[j2,xC rows en e m aa,j2,ea];congr 2
  omega
theorem Gz (rows:List bG) (fr to en:aY) (l0:Nat): ∀m,(∀k,l0≤k→k<l0+m→whole fr to rows.length k)→gE rows fr to en l0 (l0+m)=j2 rows en (l0+m) m
 | 0,_=>u5 _ _ _ _ _ _ aa
 | m+1,h=>by
  rw[←qO,Gy rows fr to en l0 (l0+m) aa (h _ aa aa),Gz rows fr to en l0 m (λk a b=>h k a aa),xC _ _ _ _ aa]
theorem Qw (rows:List bG) (fr to en:aY) (k x m:Nat) (c:fr.row=(k:Int)) (d:fr.cM=(x:Int)) (a:to.row=rows.length) (e:k+(m+1)≤rows.length):
 gE rows fr to en k (k+(m+1))=e5 (dQ rows k) k en x (dQ rows k).length++j2 rows en (k+(m+1)) m:=by
 induction m with
 | zero=>
  rw[gE,u5 _ _ _ _ _ _ aa,ag aa,j2,eu,lO];congr 1
  unfold eT;rw[aw aa];omega
  unfold fY;rw[ag aa];omega
 | succ m b=>
  rw[←qO,Gy rows fr to en k (k+(m+1)) aa ⟨λh=>by omega,a,aa⟩,b aa,xC _ _ _ _ aa,ea]
theorem GA {L:List bh} {x y:Nat} (b:x<y): ∀n,iM L 0 n=some y→iM L x n=some y
 | 0,h=>by simp[iM] at h
 | n+1,h=>by
  rw[iM,ag aa] at h
  rw[iM];split at h
  rename_i a;injection h with h
  rw[ag aa,aw a];exact aU some h
  rename_i a;have c: ∀n y,iM L 0 n=some y→y≤n:=by
   intro n;induction n with
   | zero=>intro y h;simp[iM] at h
   | succ n d=>
    intro y h;rw[iM,ag aa] at h
    split at h
    injection h with h;omega
    have:=d y h;omega
  have:=c n y h
  rw[ag aa,ag a];exact GA b n h
theorem GB {rows:List bG} {to p:aY} {k x s:Nat} (j:p.row=(k:Int)) (l:p.cM=(x:Int)) (n:to.row=rows.length) (o:s≤k): ∀e,k<e→e≤rows.length→eA p (fj rows ⟨0,0⟩ to s e)=true→fj rows p to k e=fj rows ⟨0,0⟩ to s e
 | 0,h,_,_=>by omega
 | e+1,h,z,a=>by
  have f: (fY to e (dQ rows e).length).toNat=(dQ rows e).length:=by unfold fY;rw[ag aa];omega
  have q: (eT ⟨0,0⟩ e).toNat=0:=by unfold eT;split <;> rfl
  have r:fj rows ⟨0,0⟩ to s (e+1)=match iM (dQ rows e) 0 (dQ rows e).length with
   | some x=>⟨(e:Int),(x:Int)⟩
   | none=>fj rows ⟨0,0⟩ to s e:=by rw[fj,ag aa,q,f];rfl
  rw[r] at a ⊢
  rw[fj,ag aa,f];rcases ej k e with g | g
  have c: (eT p e).toNat=0:=by unfold eT;rw[ag aa];rfl
  rw[c];cases b:iM (dQ rows e) 0 (dQ rows e).length with
  | some y=>rfl
  | none=>
   rw[b] at a
   exact GB j l n o e g aa a
  have t:e=k:=by omega
  subst t;have c: (eT p e).toNat=x:=by unfold eT;rw[aw aa];omega
  rw[c];cases b:iM (dQ rows e) 0 (dQ rows e).length with
  | some y=>
   rw[b] at a
   have u:x<y:=by
    have:=aX a
    dsimp only at this
    omega
   rw[GA u _ b]
  | none=>
   rw[b] at a
   exfalso
   have v: ∀m,m≤e→(fj rows ⟨0,0⟩ to s m).row<e∨fj rows ⟨0,0⟩ to s m=⟨0,0⟩:=by
    intro m;induction m with
    | zero=>intro _;exact .inr rfl
    | succ m w=>
     intro A;rw[fj];split
     exact .inr rfl;split
     exact .inl bm;exact w aa
   have d:=aX a
   dsimp only at d
   rcases v e (bW _) with i | i
   omega
   rw[i] at d;dsimp only at d;omega
theorem GC (rows:List bG) (fr to:aY) (l0:Nat): ∀e,(∀j,l0≤j→j<e→whole fr to rows.length j∧whole ⟨0,0⟩ to rows.length j)→fj rows fr to l0 e=fj rows ⟨0,0⟩ to l0 e
 | 0,_=>rfl
 | e+1,h=>by
  rw[fj,fj];split
  rfl
  have a:=h e aa aa
  rw[(a.1.AP 0).1,(a.2.AP 0).1,GC rows fr to l0 e (λj b c=>h j b aa)]
theorem Qx {to:aY} {n k:Nat} (a:to.row=n) (b:k<n):whole ⟨0,0⟩ to n k:=⟨λ_=>iB _,a,b⟩
theorem xD {rows:List bG} {fr to:aY} {s e:Nat} (a:to.row=rows.length) (i:s<e) (l:e≤rows.length) (m:fr.row<s∨fr.row≤s∧fr.cM≤0):
 e6 rows fr to ((s:Int),(e:Int))=j2 rows (fj rows ⟨0,0⟩ to s e) e (e - s)++[(10,jI rows e)]:=by
 have f:max (s:Int) fr.row=(s:Int):=by omega
 unfold e6;dsimp only;rw[f,aw ⟨aa,aa⟩,ag (show ¬(to.row<rows.length∧to.row+1<(e:Int)) by omega),aw aa,fV,fV];have b: ∀j,s≤j→j<e→whole fr to rows.length j∧whole ⟨0,0⟩ to rows.length j:=λj c g=>⟨⟨λh=>by omega,a,aa⟩,Qx a aa⟩
 rw[GC rows fr to s e b];have d:=Gz rows fr to (fj rows ⟨0,0⟩ to s e) s (e - s) (λk c g=>(b k c aa).1)
 rw[show s+(e - s)=e by omega] at d
 rw[d]
theorem GD {rows:List bG} {to p:aY} {s e k x:Nat} (b:to.row=rows.length) (c:p.row=(k:Int)) (d:p.cM=(x:Int)) (g:s≤k) (h:k<e) (i:e≤rows.length):
 e6 rows p to ((s:Int),(e:Int))=(e5 (dQ rows k) k (fj rows p to k e) x (dQ rows k).length++j2 rows (fj rows p to k e) e (e - (k+1)))++[(10,jI rows e)]:=by
 have f:max (s:Int) p.row=(k:Int):=by omega
 unfold e6;dsimp only;rw[f,aw ⟨aa,aa⟩,ag (show ¬(to.row<rows.length∧to.row+1<(e:Int)) by omega),aw aa,fV,fV];have a:=Qw rows p to (fj rows p to k e) k x (e - (k+1)) c d b aa
 rw[show k+(e - (k+1)+1)=e by omega] at a
 rw[a]
theorem Qy {rows:List bG} {fr to:aY} {s e:Nat} (h: (e:Int)≤fr.row):e6 rows fr to ((s:Int),(e:Int))=[]:=by
 unfold e6;dsimp only;rw[ag aa]
theorem GE {rows:List bG} {fr to:aY} (b:to.row=rows.length): ∀(L:List (Int × Int)) (a:Nat),oR rows rows.length a L→fr.row<a→L.flatMap (e6 rows fr to)=L.flatMap (e6 rows ⟨0,0⟩ to)
 | [],_,_,_=>rfl
 | p::L,a,h,f=>by
  obtain⟨e,g,c,d,_,_,i⟩:=sS h;subst g;rw[jX,jX,GE b L e i aa,xD b c d (.inl f),xD b c d (.inr ⟨by show (0 :Int)≤a;omega,iB _⟩)]
theorem Qz {L:List bh} {n x:Nat} (h:hQ L n≤x) (g:x<n): ∀c,L[x]? = some c→c.half=3:=by
 induction n with
 | zero=>omega
 | succ n d=>
  rw[hQ] at h
  split at h
  rename_i a;rcases ej x n with b | b
  exact d h b;have e:x=n:=by omega
  subst e;intro c f;rw[f] at a
  simpa using a
  omega
theorem GF (L:List bh) (row:Nat) (en:aY) {a:Nat} (b:hQ L L.length≤a): ∀k,k≤L.length→e5 L row en a k=[]
 | 0,_=>rfl
 | k+1,h=>by
  rw[e5,GF L row en b k aa,lO];split
  rfl
  split
  rename_i c d;unfold mQ;rw[ag (λe=>e.1 (Qz (n:=L.length) aa aa c d))];rfl
theorem GG {L:List bh} {k:Nat} {en:aY} {f:aY→fv} {tail:fv} (g: ∀c∈L,(jH c).length≤36)
 (i: ∀x:Nat,eA ⟨(k:Int),(x:Int)⟩ en=true→f ⟨(k:Int),(x:Int)⟩=e5 L k en x L.length++tail): ∀(m x:Nat),x+m=L.length→Cut (e5 L k en x L.length) f tail
 | 0,x,h=>by rw[rh _ _ _ _ _ aa];exact Cut.nil _ _
 | m+1,x,h=>by
  have j:=Gx L k en x L.length aa
  rw[j];refine Cut.hK (λa y b=>?_) (GG g i m (x+1) aa);have l:xB L k en x=[]∨ ∃c∈L,xB L k en x=lX ⟨(k:Int),(x:Int)⟩ (jH c)∧eA ⟨(k:Int),(x:Int)⟩ en=true:=by
   unfold xB;cases e:L[x]? with
   | none=>exact .inl rfl
   | some c=>
    dsimp only;unfold mQ;split
    rename_i d;exact .inr ⟨c,da e,rfl,d.2⟩;exact .inl rfl
  rcases l with d | ⟨c,e,d,n⟩
  rw[d] at b;simp at b
  have p:=g c e
  rw[d] at b
  unfold lX at b
  rw[eD] at b
  obtain⟨z,o,rfl⟩:=Option.map_eq_some_iff.1 b;have q:=(cK.1 o).1
  refine⟨0,bP _,aa,?_⟩;rw[nf];show f ⟨(k:Int),(x:Int)⟩=_
  rw[i x n,j,ea]
theorem GH {rows:List bG} {en:aY} {e:Nat} {f:aY→fv} {tail:fv} (a: ∀k,∀c∈dQ rows k,(jH c).length≤36):
 ∀m,(∀i,i<m→ ∀x:Nat,eA ⟨((e - (i+1):Nat):Int),(x:Int)⟩ en=true→f ⟨((e - (i+1):Nat):Int),(x:Int)⟩=e5 (dQ rows (e - (i+1))) (e - (i+1)) en x (dQ rows (e - (i+1))).length++(j2 rows en e i++tail))→Cut (j2 rows en e m) f tail
 | 0,_=>Cut.nil _ _
 | m+1,h=>Cut.hK (GG (a _) (h m (Nat.lt_succ_self m)) _ 0 (dE _)) (GH a m (λi hi=>h i aa))
theorem GI {rows:List bG} {to:aY} (b:to.row=rows.length) (g: ∀k,∀c∈dQ rows k,(jH c).length≤36) {f:aY→fv}:
 ∀(L:List (Int × Int)) (a:Nat),oR rows rows.length a L→(∀p:aY,(a:Int)≤p.row→f p=L.flatMap (e6 rows p to))→Cut (L.flatMap (e6 rows ⟨0,0⟩ to)) f []
 | [],_,_,_=>Cut.nil _ _
 | C::L,a,h,l=>by
  obtain⟨e,r,t,d,_,_,m⟩:=sS h;subst r;have n: ∀p:aY,(a:Int)≤p.row→p.row<e→f p=e6 rows p to ((a:Int),(e:Int))++L.flatMap (e6 rows ⟨0,0⟩ to):=λp u v=>by
   rw[l p u,jX,GE b L e m v]
  have w:=GI (f:=f) b g L e m (λp ai=>by rw[l p aa,jX,Qy ai,lO])
  rw[jX];refine Cut.hK ?_ w;rw[eu,xD b t d (.inr ⟨by show (0 :Int)≤a;omega,iB _⟩)];refine Cut.hK (GH g _ (λi hi x z=>?_)) (λj y o=>?_);have q:=GD (s:=a) (p:=⟨((e - (i+1):Nat):Int),(x:Int)⟩) b rfl rfl aa (show e - (i+1)<e by omega) d
  rw[GB (s:=a) rfl rfl b aa e aa d z] at q
  rw[n _ (by show (a:Int)≤((e - (i+1):Nat):Int);omega) (by show ((e - (i+1):Nat):Int)<e;omega),q,show e - (e - (i+1)+1)=i by omega];simp only[ea];cases j with
  | succ j=>simp at o
  | zero=>
   obtain rfl:y=(10,jI rows e):=by simpa using o.symm
   refine⟨0,bW _,aa,?_⟩;have A: (jI rows e).row=((e - 1 :Nat):Int):=by show (e:Int) - 1=_;omega
   have B: (jI rows e).cM=((hQ (dQ rows (e - 1)) (dQ rows (e - 1)).length:Nat):Int):=by
    unfold jI;dsimp only;rw[show ((e:Int) - 1).toNat=e - 1 by omega]
   rw[nf,n _ (by show (a:Int)≤(jI rows e).row;omega) (by show (jI rows e).row<e;omega),GD (s:=a) b A B aa aa d,GF _ _ _ (bW _) _ (bW _),show e - (e - 1+1)=0 by omega];rfl
theorem QA {rows:List bG} (l: ∀k,∀c∈dQ rows k,(jH c).length≤36) {a:Nat} {x:UInt8 × aY} (e: (hR rows ⟨0,0⟩ ⟨(rows.length:Int),0⟩)[a]? = some x) (g:0≤x.2.row∧x.2.row<rows.length):
 ∃b,b≤a∧a≤b+36∧hR rows x.2 ⟨(rows.length:Int),0⟩=(hR rows ⟨0,0⟩ ⟨(rows.length:Int),0⟩).drop b:=by
 have h: ∀p:aY,0≤p.row→p.row<rows.length→hR rows p ⟨(rows.length:Int),0⟩=(jl rows rows.length).flatMap (e6 rows p ⟨(rows.length:Int),0⟩):=λp i d=>by
  unfold hR;rw[show p6 p=p by unfold p6;rw[ag aa],aw (show eA p ⟨(rows.length:Int),0⟩=true from bX (.inl d))]
 rw[h ⟨0,0⟩ (iB _) (by show (0 :Int)<rows.length;omega)] at e ⊢
 obtain⟨b,i,d,j⟩:=GI (f:=λp=>(jl rows rows.length).flatMap (e6 rows p ⟨(rows.length:Int),0⟩)) (to:=⟨(rows.length:Int),0⟩) rfl l (jl rows rows.length) 0 (u3 rows rows.length) (λp _=>rfl) a x e;rw[eu] at j
 exact⟨b,i,d,by rw[h _ g.1 g.2];exact j⟩
theorem p7 {p q:aY}:eA p q=true↔p.row<q.row∨p.row=q.row∧p.cM<q.cM:=decide_eq_true_iff
structure gF (l:fv) (p q:aY):Prop where
 up:l.Pairwise (λx y=>eA y.2 x.2=false)
 lo: ∀x∈l,eA x.2 p=false
 hi: ∀x∈l,eA x.2 q=true
 cM: ∀x∈l,0≤x.2.cM
theorem gF.nil (p q:aY):gF [] p q:=⟨List.Pairwise.nil,λ_ h=>by simp at h,λ_ h=>by simp at h,λ_ h=>by simp at h⟩
theorem gq {p q:aY}:eA p q=false↔ ¬(p.row<q.row∨p.row=q.row∧p.cM<q.cM):=e2
theorem gF.hK {l m:fv} {p q r:aY} (h:gF l p q) (k:gF m q r) (b:eA q p=false) (c:eA r q=false):gF (l++m) p r:=by
 rw[gq] at b c
 refine⟨List.pairwise_append.2 ⟨h.up,k.up,λx a y d=>?_⟩,λx a=>?_,λx a=>?_,λx a=>(cZ.1 a).elim (h.cM x) (k.cM x)⟩;have e:=p7.1 (h.hi x a)
 have f:=gq.1 (k.lo y d)
 rw[gq];omega
 rcases cZ.1 a with a | a
 exact h.lo x a;have f:=gq.1 (k.lo x a)
 rw[gq];omega
 rcases cZ.1 a with a | a
 have e:=p7.1 (h.hi x a)
 rw[p7];omega
 exact k.hi x a
theorem gF.wide {l:fv} {p q r:aY} (h:gF l p q) (a:eA r q=false):gF l p r:=by
 rw[gq] at a
 exact⟨h.up,h.lo,λx b=>by have:=p7.1 (h.hi x b);rw[p7];omega,h.cM⟩
theorem GJ {L:List bh}: ∀{n x:Nat},x<n→(∀c,L[x]? = some c→c.half≠3)→(L[x]?).isSome→x<hQ L n
 | 0,_,h,_,_=>by omega
 | n+1,x,h,a,b=>by
  rw[hQ];split
  rename_i d;rcases ej x n with f | f
  exact GJ f a b;have e:x=n:=by omega
  subst e;obtain⟨c,g⟩:=Option.isSome_iff_exists.1 b;rw[g] at d
  exact absurd (by simpa using d) (a c g);exact h
theorem AQ (L:List bh) (k:Nat) (en:aY): ∀m,m≤L.length→gF (e5 L k en 0 m) ⟨(k:Int),0⟩ ⟨(k:Int),(min m (hQ L L.length):Nat)⟩
 | 0,_=>gF.nil _ _
 | m+1,h=>by
  have b:=AQ L k en m aa
  rw[e5,ag aa];have e:gF (e5 L k en 0 m) ⟨(k:Int),0⟩ ⟨(k:Int),(min (m+1) (hQ L L.length):Nat)⟩:=b.wide (by rw[gq];dsimp only;omega)
  split
  rename_i c f;unfold mQ;split
  rename_i g;have i:=GJ (L:=L) (n:=L.length) (x:=m) aa (λd ak=>by rw[f] at ak;injection ak with ak;rw[←ak];exact g.1) (by rw[f];rfl)
  refine gF.hK (q:=⟨(k:Int),(m:Int)⟩) (b.wide (by rw[gq];dsimp only;omega)) ⟨?_,λx a=>?_,λx a=>?_,λx a=>?_⟩ (by rw[gq];dsimp only;omega) (by rw[gq];dsimp only;omega);unfold lX;rw[qL];exact List.pairwise_of_forall (λ_ _=>by rw[gq];dsimp only;omega);obtain⟨z,_,rfl⟩:=dH.1 a;rw[gq];dsimp only;omega
  obtain⟨z,_,rfl⟩:=dH.1 a;rw[p7];dsimp only;omega
  obtain⟨z,_,rfl⟩:=dH.1 a;dsimp only;omega
  rw[eu];exact e
  rw[eu];exact e
theorem GK (rows:List bG) (en:aY) (e:Nat): ∀m,m≤e→gF (j2 rows en e m) ⟨((e - m:Nat):Int),0⟩ ⟨(e:Int),0⟩
 | 0,_=>gF.nil _ _
 | m+1,h=>by
  rw[j2];refine gF.hK (q:=⟨((e - m:Nat):Int),0⟩) ((AQ _ _ _ _ (bW _)).wide (by rw[gq];dsimp only;omega)) (GK rows en e m aa) (by rw[gq];dsimp only;omega) (by rw[gq];dsimp only;omega)
theorem GL {rows:List bG} {to:aY} (c:to.row=rows.length): ∀(L:List (Int × Int)) (a:Nat),oR rows rows.length a L→gF (L.flatMap (e6 rows ⟨0,0⟩ to)) ⟨(a:Int),0⟩ ⟨(rows.length:Int),0⟩
 | [],_,_=>gF.nil _ _
 | m::L,a,h=>by
  obtain⟨e,g,i,j,_,_,k⟩:=sS h;subst g;rw[jX,xD c i j (.inr ⟨by show (0 :Int)≤a;omega,iB _⟩)];refine gF.hK (q:=⟨(e:Int),0⟩) ?_ (GL c L e k) (by rw[gq];dsimp only;omega) (by rw[gq];dsimp only;omega);obtain⟨d,rfl⟩ : ∃d,e=d+1:=⟨e - 1,aa⟩;have l:jI rows ((d+1 :Nat):Int)=⟨(d:Int),((hQ (dQ rows d) (dQ rows d).length:Nat):Int)⟩:=by
   unfold jI;rw[show (((d+1 :Nat):Int) - 1).toNat=d by omega,show ((d+1 :Nat):Int) - 1=(d:Int) by omega]
  rw[l,show d+1 - a=(d - a)+1 by omega,xC _ _ _ _ aa];refine gF.hK (q:=⟨(d:Int),((hQ (dQ rows d) (dQ rows d).length:Nat):Int)⟩) ?_ ⟨List.pairwise_singleton _ _,λx b=>?_,λx b=>?_,λx b=>?_⟩ (by rw[gq];dsimp only;omega) (by rw[gq];dsimp only;omega);have f:=GK rows (fj rows ⟨0,0⟩ to a (d+1)) d (d - a) aa
  rw[show ((d - (d - a):Nat):Int)=(a:Int) by omega] at f
  exact gF.hK (q:=⟨(d:Int),0⟩) f ((AQ (dQ rows d) d _ _ (bW _)).wide (by rw[gq];dsimp only;omega)) (by rw[gq];dsimp only;omega) (by rw[gq];dsimp only;omega);rw[eb.1 b,gq];dsimp only;omega
  rw[eb.1 b,p7];dsimp only;omega
  rw[eb.1 b];dsimp only;omega
theorem GM (rows:List bG):gF (hR rows ⟨0,0⟩ ⟨(rows.length:Int),0⟩) ⟨0,0⟩ ⟨(rows.length:Int),0⟩:=by
 unfold hR;split
 rw[show p6 ⟨0,0⟩=⟨0,0⟩ from rfl];exact GL rfl _ 0 (u3 rows rows.length);exact gF.nil _ _
def g_ (y:List aY) (a:Int):aY:=(y[a.toNat]?).getD ⟨0,0⟩
def findF (rows:List bG) (sn:List UInt8):List aY:=(occs sn (fT rows ⟨0,0⟩ ⟨(rows.length:Int),0⟩) (fT rows ⟨0,0⟩ ⟨(rows.length:Int),0⟩).length).map (g_ ((hR rows ⟨0,0⟩ ⟨(rows.length:Int),0⟩).map Prod.snd))
theorem AR {rows:List bG} {sn:List UInt8} (d:1≤sn.length) {a:Int} (c:a∈occs sn (fT rows ⟨0,0⟩ ⟨(rows.length:Int),0⟩) (fT rows ⟨0,0⟩ ⟨(rows.length:Int),0⟩).length):
 ∃x,(hR rows ⟨0,0⟩ ⟨(rows.length:Int),0⟩)[a.toNat]? = some x∧g_ ((hR rows ⟨0,0⟩ ⟨(rows.length:Int),0⟩).map Prod.snd) a=x.2:=by
 obtain⟨e,f,g⟩:=sR c (bW _);have b:a.toNat<(hR rows ⟨0,0⟩ ⟨(rows.length:Int),0⟩).length:=by
  have: (fT rows ⟨0,0⟩ ⟨(rows.length:Int),0⟩).length=(hR rows ⟨0,0⟩ ⟨(rows.length:Int),0⟩).length:=cB _
  omega
 refine⟨_,bE b,?_⟩;unfold g_;rw[eD,bE b];rfl
theorem QB {rows:List bG} {sn:List UInt8} (c:1≤sn.length): (findF rows sn).Pairwise (λp q=>eA q p=false):=by
 unfold findF;rw[qL];refine List.Pairwise.imp_of_mem ?_ (AD (s:=sn) (t:=fT rows ⟨0,0⟩ ⟨(rows.length:Int),0⟩) (fT rows ⟨0,0⟩ ⟨(rows.length:Int),0⟩).length).1;intro a b d e n;obtain⟨x,f,g⟩:=AR c d;obtain⟨y,h,i⟩:=AR c e;have o:=(sR d (bW _)).1
 have r:=(sR e (bW _)).1
 rw[g,i];obtain⟨j,k⟩:=cK.1 f;obtain⟨l,m⟩:=cK.1 h;have:=List.pairwise_iff_getElem.1 (GM rows).up a.toNat b.toNat j l aa
 rw[k,m] at this
 exact this
theorem QC {rows:List bG} (j: ∀k,∀c∈dQ rows k,(jH c).length≤36) {sn:List UInt8} (f:1≤sn.length) {p:aY} (ai:p∈findF rows sn):
 (0≤p.row∧p.row<rows.length)∧ ∃a∈occs sn (fT rows p ⟨(rows.length:Int),0⟩) (fT rows p ⟨(rows.length:Int),0⟩).length,a≤36:=by
 obtain⟨a,g,rfl⟩:=dH.1 ai;obtain⟨x,h,l⟩:=AR f g;obtain⟨r,s,m⟩:=sR g (bW _);rw[l];have d:=GM rows
 have e:=da h
 have n:=gq.1 (d.lo x e)
 have aH:=p7.1 (d.hi x e)
 have t:=d.cM x e
 dsimp only at n aH
 have i:0≤x.2.row∧x.2.row<rows.length:=by omega
 obtain⟨b,u,v,o⟩:=QA j h i;refine⟨i,((a.toNat - b:Nat):Int),?_,aa⟩;have q:fT rows x.2 ⟨(rows.length:Int),0⟩=(fT rows ⟨0,0⟩ ⟨(rows.length:Int),0⟩).drop b:=by
  unfold fT;rw[o,List.map_drop]
 rw[q];refine Ga ?_ f ?_;rw[lJ,show b+(a.toNat - b)=a.toNat by omega];exact m;rw[fJ];omega
section
section
variable {b:World} {S:List Nat} {cs cs':List Chunk} {w:World}
theorem af.AS {l:List Chunk} {k:Nat} {c c':Chunk} (h:af b S (c'::aR l::cs) w) (a:l[k]? = some c):af b S (aR (l.set k c')::cs) w:=by
 have d:=(cK.1 a).1
 have f:=(cK.1 a).2
 have g:l=l.take k++c::l.drop (k+1):=by
  conv=>lhs;rw[←iF k l]
  rw[lK d,f]
 have i:l.set k c'=l.take k++c'::l.drop (k+1):=by rw[qN,aw d]
 have j:af b S (aR l::c'::cs) w:=h.perm (List.Perm.swap _ _ _)
 have e:=j.lb
 rw[g] at e
 have m:af b S (c::(l.take k++c'::l.drop (k+1))++cs) w:=e.perm (by
  simp only[ea,my];refine List.perm_middle.trans (List.Perm.cons _ ?_);refine List.Perm.append_left _ ?_;exact (ov).trans (List.Perm.refl _))
 rw[i];exact (m.rem bw.head).close'
theorem af.GN {l l':List Chunk} (h:af b S (aR l::cs) w) (ai:List.Perm l l'):af b S (aR l'::cs) w:=(h.lb.perm (ai.append_right _)).close'
theorem af.QD {l l' r:List Chunk} (h:af b S (aR l::cs) w) (ai:List.Perm l (r++l')):af b S (aR l'::cs) w:=by
 have a:=h.lb.perm (ai.append_right cs)
 rw[ea] at a
 exact (af.drop _ r a).close'
end
structure bS where
 A:Option Addr
 c:Nat
 cont:Bool
 cells:List bh
abbrev bS.val (r:bS):Value:= .slice r.A r.cells.length r.c
abbrev bS.enc (r:bS):List Value:=[.slice r.A r.cells.length r.c,.bool r.cont]
def cl:bA bS:=⟨bS.enc,2,λ_=>rfl,λ_=>aI.cons rfl (aI.cons rfl aI.nil)⟩
abbrev bS.fw (r:bS):bG:=(r.cells,r.cont)
abbrev bS.u6 (r:bS):p2:=⟨r.A,r.cells.length,r.c,r.cont⟩
abbrev dN (v:Value) (L:List bh):Chunk:=own 215 8 v L.length (bK.all L)
abbrev bS.aF (r:bS):Chunk:=dN r.val r.cells
abbrev b5 (eS:List bS):List bG:=eS.map bS.fw
abbrev jm:bS:=⟨none,0,false,[]⟩
structure de where
 A:Option Addr
 c:Nat
 l:List bS
abbrev de.val (r:de):Value:= .slice r.A r.l.length r.c
abbrev de.au (r:de):Chunk:=own 144 2 r.val r.l.length (cl.all r.l)
abbrev de.b9 (r:de):Chunk:=aR (r.l.map bS.aF)
theorem GO (eS:List bS):cl.all eS=lh.all (eS.map bS.u6):=by
 induction eS with
 | nil=>rfl
 | cons r eS a=>
  show cl.enc r++cl.all eS=lh.enc r.u6++lh.all (eS.map bS.u6)
  rw[a];rfl
theorem u7 {w:World} {v:Value} {L:List bh} (h: (dN v L).pred w): ∃A c,v= .slice A L.length c∧Rd bK w (λk=>v.ownBlock=some k) A L.length c L:=
 Rd.gf (E:=bK) (show w.ownsRow 0 215 bK.sz v L.length (bK.all L) from h) rfl
theorem oW {w:World} {r:de} (f:r.au.pred w) (h:r.b9.pred w):ez w (λ_=>True) r.A r.l.length r.c (b5 r.l):=by
 have i:w.ownsRow 0 144 lh.sz r.val r.l.length (lh.all (r.l.map bS.u6)):=by
  have:w.ownsRow 0 144 2 r.val r.l.length (cl.all r.l):=f
  rw[GO] at this;exact this
 obtain⟨A,c,j,m⟩:=Rd.gf (E:=lh) i av;injection j with n v o
 subst n o;refine⟨_,m.dC (λ_ _=>a1),by simp,λk x row a b=>?_⟩;rw[eD] at a b
 cases e:r.l[k]? with
 | none=>rw[e] at a;cases a
 | some g=>
  rw[e] at a b
  cases a;cases b
  have p:=h g.aF (dH.2 ⟨g,da e,rfl⟩)
  obtain⟨y,d,q,s⟩:=u7 p;injection q with t z u
  subst t u;exact s.dC (λ_ _=>a1)
structure eh where
 kind:Int
 at_:Int
 n:Int
abbrev eh.enc (s:eh):List Value:=[.int .i64 s.kind,.int .i64 s.at_,.int .i64 s.n]
def j3:bA eh:=⟨eh.enc,3,λ_=>rfl,λ_=>aI.cons rfl (aI.cons rfl (aI.cons rfl aI.nil))⟩
structure lY where
 A:Option Addr
 c:Nat
 l:List eh
abbrev lY.val (r:lY):Value:= .slice r.A r.l.length r.c
abbrev lY.au (r:lY):Chunk:=own 180 3 r.val r.l.length (j3.all r.l)
structure dj where
 g:Nat
 s:de
 room:Int
 first:Int
 n:Int
 gone:Int
abbrev AT (r:dj):List Value:=[r.s.val,.int .i64 r.room,.int .i64 r.first,.int .i64 r.n,.int .u64 r.gone]
abbrev dj.an (r:dj):Chunk:=aD r.g (AT r) 208
abbrev cc (r:dj):List Chunk:=[r.an,r.s.au,r.s.b9]
def eB (r:dj) (i:Int):Int:=if (r.s.l.length:Int)≤i+r.first then i+r.first - r.s.l.length else i+r.first
structure cX (r:dj):Prop where
 len: (r.s.l.length:Int)≤r.room
 room:0≤r.room∧r.room≤100000
 n:0≤r.n∧r.n≤r.s.l.length
 first:0≤r.first∧(r.first<r.s.l.length∨r.first=0)
 gone:0≤r.gone∧r.gone<18446744073709551616
def dj.rows (r:dj):List bG:=(List.range r.n.toNat).map (λ(i:Nat)=>(((r.s.l[(eB r i).toNat]?).map bS.fw).getD ([],false)))
structure bq where
 g:Nat
 r:dj
 s:de
 cols:Int
 bf:lY
abbrev nH (p:bq):List Value:=[.pointer (some ⟨p.r.g,0,none⟩),p.s.val,.int .i64 p.cols,p.bf.val]
abbrev bq.an (p:bq):Chunk:=aD p.g (nH p) 141
abbrev bB (p:bq):List Chunk:=[p.an,aR (cc p.r),p.s.au,p.s.b9,p.bf.au]
abbrev ptr (g:Nat):Value:= .pointer (some ⟨g,0,none⟩)
end
end Go.Proofs.YtlgnfdodnhokjaaGreatDoor.Mq
namespace Go.Proofs.YtlgnfdodnhokjaaGreatDoor.Mq
open Go Go.RowKit Go.Proofs Tryz
theorem af.bU {b w:World} {S:List Nat} {cs:List Chunk} (h:af b S cs w) {g o:Nat} {xs:List Value} {t:TypeId} {v:Value} (a: (aD g xs t).pred b) (c:g∉S) (d:xs[o]? = some v):w.cell? ⟨g,o,none⟩=some v:=by
 refine h.cu ?_ c;have e:b.heap[g]? = some (.cells xs.toArray t (0,0)):=a
 rw[cell_of_row b g o xs.toArray t (0,0) e];simpa using d
theorem af.jJ {b w:World} {S:List Nat} {cs:List Chunk} (h:af b S cs w) {g o sz:Nat} {xs vs:List Value} {t:TypeId} (c: (aD g xs t).pred b) (d:g∉S) (e: (xs.drop o).take sz=vs) (j:Nat) (u:Value) (a:vs[j]? = some u):w.cell? ((⟨g,o,none⟩ :Addr).add j)=some u:=by
 rw[Addr.add_lit];refine h.bU c d ?_;rw[←e,iD] at a
 split at a
 simpa using a
 cases a
theorem ds {P:Program} {n:Nat} {ops:Array Oper} {Q:cq} {rest:List Oper} {l:Fr} {d:Nat} {ty:TypeId} {pos:String} {a7:Array Edge} {H:World→Prop} {x i:Operand} {t e len sz:Nat} {g o:Nat} {q:Nat} {k:IntKind} {j:Int} (a:P.underlying t=some (.array len e)) (b: (P.info? e).map (·.size)=some sz) (ak:Nat.blt d n=true) (c:ba l x=some (.pointer (some ⟨g,o,none⟩))) (hi:ba l i=some (.int k j))
 (f:j=(q:Int)) (m:q<len)
 (h:az P n ops Q rest ((d,.pointer (some ⟨g,o+q*sz,none⟩))::l) H):az P n ops Q (⟨some d,.indexAddr t x i,ty,pos,a7,none⟩::rest) l H:=
 qW a b ak c hi f m (by rw[Addr.add_lit];exact h)
abbrev Pure (v:Value) (w:World):Ending→World→Prop:=λe w'=>e= .returned v∧Ext [] w w'
theorem AU (w:World) (r:dj) (a:r.an.pred w):Calls prog 96 [ptr r.g].toArray w (Pure (.int .i64 r.n) w):=by
 refine aV func96 ntmps96 ?_;refine hq ?_;refine a_ bN rfl rfl (λd b=>b.bU a (by (simp;done)) rfl) ?_;refine ay ?_;intro e c;exact⟨rfl,c.ext⟩
theorem xE (w:World) (r:dj) (b:r.an.pred w) (i:Int) (hi:0≤i∧i≤1000000) (h:0≤r.first∧r.first≤1000000) (j: (r.s.l.length:Int)≤1000000):Calls prog 98 [ptr r.g,.int .i64 i].toArray w (Pure (.int .i64 (eB r i)) w):=by
 refine aV func98 ntmps98 ?_;refine bp ?_;refine a_ bN rfl rfl (λd a=>a.bU b (by (simp;done)) rfl) ?_;refine bp ?_;refine a_ wR rfl rfl (λd a=>a.bU b (by (simp;done)) rfl) ?_;refine aS ?_;refine aj (λe=>?_) (λe=>?_);refine ay ?_;refine a_ wR rfl rfl (λd a=>a.bU b (by (simp;done)) rfl) ?_;refine bH ?_;intro f c;exact⟨by simp only[eB,Ending.returned.injEq,Value.int.injEq,true_and];omega,c.ext⟩;refine aQ ?_;intro f c;exact⟨by simp only[eB,Ending.returned.injEq,Value.int.injEq,true_and];omega,c.ext⟩
theorem ri (w:World) (p:bq) (ai:p.an.pred w):Calls prog 100 [ptr p.g].toArray w (Pure (.int .i64 (p.s.l.length:Int)) w):=by
 refine aV func100 ntmps100 ?_;refine hq ?_;refine a_ wR rfl rfl (λc a=>a.bU ai (by (simp;done)) rfl) ?_;refine al ?_;intro d b;exact⟨rfl,b.ext⟩
theorem AV (w:World) (p:bq) (ai:p.an.pred w):Calls prog 260 [ptr p.g].toArray w (Pure (.int .i64 p.cols) w):=by
 refine aV func260 ntmps260 ?_;refine hq ?_;refine a_ bN rfl rfl (λc a=>a.bU ai (by (simp;done)) rfl) ?_;refine ay ?_;intro d b;exact⟨rfl,b.ext⟩
theorem af.dF {b w:World} {S:List Nat} {cs:List Chunk} (h:af b S cs w) {c:Chunk} (a:c.pred b) (ak: ∀k∈c.ch,k∉S):c.pred w:=
 c.loc b w (λk d=>h.ext.block k (c.low b a k d) (ak k d)) a
theorem oX (w:World) (p:bq) (ai:p.an.pred w) (a:p.r.an.pred w):Calls prog 99 [ptr p.g].toArray w (Pure (.int .i64 p.r.n) w):=by
 refine aV func99 ntmps99 ?_;refine hq ?_;refine a_ Mv rfl rfl (λf b=>b.bU ai (by (simp;done)) rfl) ?_;refine ao rfl zT rfl (λc d=>AU c _ (d.dF a av)) ?_;refine ay ?_;intro h e;exact⟨rfl,e.ext⟩
theorem sX (w:World) (p:bq) (ai:p.an.pred w) (y:Int):Calls prog 318 [ptr p.g,.int .i64 y].toArray w (Pure (.bool (decide (0≤y∧y<p.s.l.length))) w):=by
 refine aV func318 ntmps318 ?_;refine aQ ?_;refine aW 7 rfl (λa=>?_) (λa=>?_);have c:=aX a
 refine ay ?_;refine ao rfl q6 rfl (λd e=>ri d _ (e.dF ai av)) ?_;refine aK ?_;intro f b;exact⟨by simp;omega,b.ext⟩;have c:=bd a
 refine aQ ?_;intro f b;exact⟨by simp;omega,b.ext⟩
def nI:bA (Int × Int):=⟨λp=>[.int .i32 p.1,.int .i32 p.2],2,λ_=>rfl,λ_=>aI.cons rfl (aI.cons rfl aI.nil)⟩
def u9:List (Int × Int):=[(768,879),(1155,1161),(1425,1469),(1552,1562),(1611,1631),(2304,2306),(2364,2364),(2369,2376),(3633,3633),(3636,3642),(6832,6911),(7616,7679),(8203,8207),(8400,8447),(8288,8292),(65024,65039),(65056,65071),(65279,65279),(917760,917999)]
def u_:List (Int × Int):=[(4352,4447),(8986,8987),(9001,9002),(9193,9196),(9725,9726),(9748,9749),(11904,12350),(12353,13311),(13312,19903),(19968,40959),(40960,42191),(43360,43391),(44032,55203),(63744,64255),(65072,65135),(65280,65376),(65504,65510),(127744,128591),(128640,128767),(129280,129535),(131072,196605),(196608,262141)]
def sY (r:Int) (p:Int × Int):Bool:=decide (p.1≤r) && decide (r≤p.2)
def lZ (L:List (Int × Int)) (r:Int):Bool:=L.any (sY r)
def nJ (r:Int):Bool:=decide (r<32) || (decide (127≤r) && decide (r<160)) || (decide (55296≤r) && decide (r<57344)) || decide (1114111<r)
def dw (r:Int):Int:=if nJ r=true then -1 else if r<768 then 1 else if lZ u9 r=true then 0 else if lZ u_ r=true then 2 else 1
theorem AW (r:Int):dw r= -1∨dw r=0∨dw r=1∨dw r=2:=by
 unfold dw;repeat' split
 all_goals simp
def xF (L:List (Int × Int)) (a:World) (v:Value) (b:World):Prop:= ∃A c,v= .slice A L.length c∧Rd nI b (λk=>a.heap.size≤k) A L.length c L
theorem QE (w:World):Calls prog 371 [].toArray w (nx (xF u9 w) w):=by
 refine aV func371 ntmps371 ?_;refine uW ?_;intro d e f;refine ay ?_;intro g a;have b:=Rd.hp (E:=nI) (L:=u9) a Has.head rfl aZ
 exact⟨_,rfl,a.ext,_,_,rfl,b.dC (λk c=>by rw[c];assumption)⟩
theorem QF (w:World):Calls prog 372 [].toArray w (nx (xF u_ w) w):=by
 refine aV func372 ntmps372 ?_;refine xt ?_;intro d e f;refine ay ?_;intro g a;have b:=Rd.hp (E:=nI) (L:=u_) a Has.head rfl aZ
 exact⟨_,rfl,a.ext,_,_,rfl,b.dC (λk c=>by rw[c];assumption)⟩
theorem AX (w:World) (r:Int):Calls prog 369 [.int .i32 r].toArray w (Pure (.bool (nJ r)) w):=by
 refine aV func369 ntmps369 ?_;refine aQ ?_;refine aW 5 rfl (λc=>?_) (λc=>?_);have i:=aX c
 refine jF ?_;intro b a;exact⟨by simp only[nJ,Ending.returned.injEq,Value.bool.injEq];(simp;omega),a.ext⟩;have i:=bd c
 refine al ?_;refine aW 8 rfl (λaH=>?_) (λaH=>?_);have j:=aX aH
 refine aK ?_;refine aW 13 rfl (λd=>?_) (λd=>?_);have k:=aX d
 refine dB ?_;intro b a;exact⟨by simp only[nJ,Ending.returned.injEq,Value.bool.injEq];(simp;omega),a.ext⟩;have k:=bd d
 refine al ?_;refine aW 16 rfl (λe=>?_) (λe=>?_);have l:=aX e
 refine aK ?_;refine aW 21 rfl (λf=>?_) (λf=>?_);have m:=aX f
 refine aK ?_;intro b a;exact⟨by simp only[nJ,Ending.returned.injEq,Value.bool.injEq];(simp;omega),a.ext⟩;have m:=bd f
 refine aQ ?_;intro b a;exact⟨by simp only[nJ,Ending.returned.injEq,Value.bool.injEq];(simp;omega),a.ext⟩;have l:=bd e
 refine dB ?_;intro b a;exact⟨by simp only[nJ,Ending.returned.injEq,Value.bool.injEq];(simp;omega),a.ext⟩;have j:=bd aH
 refine bx ?_;refine aW 16 rfl (λg=>?_) (λg=>?_);have n:=aX g
 refine aK ?_;refine aW 21 rfl (λh=>?_) (λh=>?_);have o:=aX h
 refine aK ?_;intro b a;exact⟨by simp only[nJ,Ending.returned.injEq,Value.bool.injEq];(simp;omega),a.ext⟩;have o:=bd h
 refine aQ ?_;intro b a;exact⟨by simp only[nJ,Ending.returned.injEq,Value.bool.injEq];(simp;omega),a.ext⟩;have n:=bd g
 refine dB ?_;intro b a;exact⟨by simp only[nJ,Ending.returned.injEq,Value.bool.injEq];(simp;omega),a.ext⟩
theorem QG (w:World) (p:Int × Int) (g:Nat) (r:Int) (d: (aD g [.int .i32 r] 21).pred w):Calls prog 416 ([]++[Value.agg (nI.enc p).toArray]++[ptr g]).toArray w (Pure (.bool (sY r p)) w):=by
 refine aV func416 ntmps416 ?_;refine ah ?_;intro i j k;refine ay ?_;refine ds (q:=0) underlying425 Ek rfl rfl rfl bc aa ?_;refine ar ?_;refine a_ jC rfl rfl (λe a=>a.bU d av rfl) ?_;refine aq ?_;refine aW 8 rfl (λb=>?_) (λb=>?_);have f:=aX b
 refine ar ?_;refine a_ jC rfl rfl (λe a=>a.bU d av rfl) ?_;refine ar ?_;refine ds (q:=1) underlying425 Ek rfl rfl rfl bc aa ?_;refine aQ ?_;intro h c;exact⟨by simp only[sY,Ending.returned.injEq,Value.bool.injEq];(simp;omega),c.ext⟩;have f:=bd b
 refine aQ ?_;intro h c;exact⟨by simp only[sY,Ending.returned.injEq,Value.bool.injEq];(simp;omega),c.ext⟩
theorem QH (w:World) (F:Nat→Prop) (A:Option Addr) (n c:Nat) (L:List (Int × Int)) (f:Rd nI w F A n c L) (B:n≤100) (g:Nat) (r:Int) (h: (aD g [.int .i32 r] 21).pred w):
 Calls prog 438 [.slice A n c,.func (.func 416) [].toArray [ptr g].toArray].toArray w (nx (λv _=> ∃k:Int,v= .int .i64 k∧decide (0≤k)=lZ L r) w):=by
 have C:=f.len
 refine aV func438 ntmps438 ?_;refine b7 ?_;refine b2 (ι:=Nat) (λi=>[(0,.slice A n c),(1,.func (.func 416) [].toArray [ptr g].toArray),(7,.int .i64 (n:Int)),(8,.int .i64 (i:Int))]) (λ_=>af w [] []) (λi=>i≤n∧lZ (L.take i) r=false) (λi=>n - i) ?_ ?_;exact λw' a=>⟨0,⟨bP _,by simp[lZ]⟩,(cj rfl rfl rfl rfl),a⟩
 rintro i ⟨hi,d⟩;refine al ?_;refine aj (λl=>?_) (λl=>?_);obtain⟨p,ai⟩ : ∃p,L[i]? = some p:=⟨L[i]'aa,bE _⟩;obtain⟨D,E,_,m⟩:=f.at_ ai;have o:lZ (L.take (i+1)) r=sY r p:=by
  rw[fR,ai,lZ,List.any_append];rw[lZ] at d
  rw[d];simp
 refine cF ?_;refine bC (q:=i) MI rfl rfl rfl bv aa aa ?_;refine cx MJ rfl rfl (rfl) (λw' a j u s=>a.cu (m j u s) av) ?_;refine gU (first:=[]) (cap:=[ptr g]) rfl rfl Py rfl (λt x=>QG t p g r (x.dF h av)) ?_;refine aq ?_;refine b1 rfl (λb=>?_) (λb=>?_);refine bH ?_;intro y e;refine⟨_,rfl,e.ext,_,rfl,?_⟩;have z:lZ L r=true:=List.any_eq_true.2 ⟨p,da ai,b⟩
 rw[z];simp
 refine aC ?_;have b:sY r p=false:=by simpa using b
 exact bi (i+1) ⟨aa,by rw[o];exact b⟩ aa bR (λw' a=>a);refine bx ?_;intro y e;refine⟨_,rfl,e.ext,_,rfl,?_⟩;have:L.take i=L:=ev aa
 rw[this] at d
 rw[d];rfl
theorem QI (w:World) (F:Nat→Prop) (A:Option Addr) (n c:Nat) (L:List (Int × Int)) (b:Rd nI w F A n c L) (d:n≤100) (g:Nat) (r:Int) (e: (aD g [.int .i32 r] 21).pred w):
 Calls prog 415 [.slice A n c,.func (.func 416) [].toArray [ptr g].toArray].toArray w (Pure (.bool (lZ L r)) w):=by
 refine aV func415 ntmps415 ?_;refine aJ ?_;refine mM (R:=λ_ v _=> ∃k:Int,v= .int .i64 k∧decide (0≤k)=lZ L r) rfl PF rfl (λw' a=>QH w' F A n c L (b.ext a.ext av) d g r (a.dF e av)) (λm o v f h p q i=>?_);obtain⟨k,rfl,j⟩:=i;refine al ?_;intro s l;exact⟨by rw[←j],f.ext.dW (h.dW l.ext)⟩
theorem GP (w:World) (F:Nat→Prop) (A:Option Addr) (n c:Nat) (L:List (Int × Int)) (b:Rd nI w F A n c L) (d:n≤100) (r:Int):
 Calls prog 370 [.slice A n c,.int .i32 r].toArray w (Pure (.bool (lZ L r)) w):=by
 refine aV func370 ntmps370 ?_;refine ah ?_;intro f g h;refine aC ?_;refine ao rfl Px rfl (λw' a=>QI w' F A n c L (b.ext a.ext av) d _ r (a.has Has.head)) ?_;refine ay ?_;intro i e;exact⟨rfl,e.ext⟩
theorem AY (w:World) (r:Int):Calls prog 304 [.int .i32 r].toArray w (Pure (.int .i64 (dw r)) w):=by
 refine aV func304 ntmps304 ?_;refine aQ ?_;refine ao rfl O9 rfl (λl A=>AX l _) ?_;refine ah ?_;refine b1 rfl (λb=>?_) (λb=>?_);refine aJ ?_;intro d a;exact⟨by rw[dw,aw b],a.ext⟩;refine aC ?_;refine aj (λc=>?_) (λc=>?_);refine aJ ?_;intro d a;exact⟨by rw[dw,ag (by simp[b]),aw c],a.ext⟩;refine aq ?_;refine mM (R:=λf=>xF u9 f) rfl O_ rfl (λw' _=>QE w') (λB m v n o C D g=>?_);obtain⟨p,c1,rfl,q⟩:=g;have j:Ext [] w m:=n.ext.dW o
 refine ar ?_;refine ao rfl Fu rfl (λw' h=>GP w' _ p _ c1 u9 (q.ext h.ext (by simp[aB])) aZ r) ?_;refine ah ?_;refine b1 rfl (λe=>?_) (λe=>?_);refine aJ ?_;intro d a;exact⟨by rw[dw,ag (by simp[b]),ag c,aw e],j.dW a.ext⟩;refine aq ?_;refine mM (R:=λf=>xF u_ f) rfl Pb rfl (λw' _=>QF w') (λE s v t u F G g=>?_);obtain⟨x,y,rfl,z⟩:=g;have k:Ext [] w s:=(j.dW t.ext).dW u
 refine ar ?_;refine ao rfl Fu rfl (λw' h=>GP w' _ x _ y u_ (z.ext h.ext (by simp[aB])) aZ r) ?_;refine ah ?_;refine b1 rfl (λi=>?_) (λi=>?_);refine aJ ?_;intro d a;exact⟨by rw[dw,ag (by simp[b]),ag c,ag (by simp[e]),aw i],k.dW a.ext⟩;refine aQ ?_;intro d a;exact⟨by rw[dw,ag (by simp[b]),ag c,ag (by simp[e]),ag (by simp[i])],k.dW a.ext⟩
end Go.Proofs.YtlgnfdodnhokjaaGreatDoor.Mq
namespace Go.Proofs.YtlgnfdodnhokjaaGreatDoor.Mq
open Go Go.RowKit Go.Proofs
section
theorem bA.GQ {α:Type} (E:bA α) {L V:List α} {p:Nat} (h:p+V.length≤L.length):df (E.all L) (p*E.sz) (E.all V)=E.all (L.take p++V++L.drop (p+V.length)):=by
 have b: (p+V.length)*E.sz≤L.length*E.sz:=k1 _ h
 rw[Mq.je _ (by rw[E.dI,E.dI,←ja];exact b),E.all_append,E.all_append,E.dI];have a: ∀q,q≤L.length→(E.all L).take (q*E.sz)=E.all (L.take q)∧(E.all L).drop (q*E.sz)=E.all (L.drop q):=by
  intro q c;have e:E.all L=E.all (L.take q)++E.all (L.drop q):=by rw[←E.all_append,iF]
  have d: (E.all (L.take q)).length=q*E.sz:=by rw[E.dI,dl,iG c]
  constructor
  conv=>lhs;rw[e]
  rw[List.take_append_of_le_length aa,ev aa];conv=>lhs;rw[e]
  rw[List.drop_append_of_le_length aa,ol aa,lO]
 rw[(a p aa).1,←ja,(a (p+V.length) h).2]
section
variable {P:Program} {n:Nat} {ops:Array Oper} {Q:cq} {rest:List Oper} {l:Fr} {d:Nat} {ty:TypeId} {pos:String} {a7:Array Edge}
variable {b:World} {S:List Nat} {cs:List Chunk}
theorem xG {α:Type} {E:bA α} {x y:Operand} {t e Ze:Nat} {z:List Value} {g m c C c1:Nat} {D:Option Addr} {L:List α} {A:Option Addr} {k c':Nat} {src:List α} {F:Nat→Prop} {cs':List Chunk} (p r:Nat) (Zf:r=min k C) (q:c6 P t e E.sz Ze z) (ak:Nat.blt d n=true)
 (K:ba l x=some (.slice D C c1)) (M:ba l y=some (.slice A k c')) (ai:0<r→D=some ⟨g,p*E.sz,none⟩) (N:p+r≤L.length)
 (a:bn cs (own e E.sz (.slice (some ⟨g,0,none⟩) m c) m (E.all L)) (own e E.sz (.slice (some ⟨g,0,none⟩) m c) m (E.all (L.take p++src.take r++L.drop (p+r)))) cs')
 (Zg: ∀w,af b S cs w→Rd E w F A k c' src)
 (h:az P n ops Q rest ((d,.int .i64 (r:Int))::l) (af b S cs')):
 az P n ops Q (⟨some d,.call ⟨.builtin .copy,#[x,y],#[t,t]⟩,ty,pos,a7,none⟩::rest) l (af b S cs):=by
 obtain⟨i,fs,O,Zr,Zs,R,Zt⟩:=q.inf;refine hD ak λZu w s G=>?_
 have T:=G.has a.has
 have H:=Zg w G
 have I: (src.take r).length=r:=by rw[dl,H.len];omega
 have v: (E.all (src.take r)).length=r*E.sz:=by rw[E.dI,I]
 have Zv:L.length*E.sz=m*E.sz:=by
  have:=T.1
  rwa [E.dI] at this
 have Zh: (p+r)*E.sz≤L.length*E.sz:=k1 _ N
 have Zw:=T.1
 have Zi:df (E.all L) (p*E.sz) (E.all (src.take r))=E.all (L.take p++src.take r++L.drop (p+r)):=by
  rw[bA.GQ E (V:=src.take r) (by rw[I];exact N),I]
 rw[←Zi] at a
 obtain⟨w',B,U⟩:=G.so (P:=P) (xs:=E.all L) (o:=p*E.sz) (vs:=E.all (src.take r)) (by rw[v,E.dI,←ja];exact Zh) (E.wI _) a;have W: (Builtin.firstCells E.sz r (.slice A k c')).run P w= .ok (E.all (src.take r)).toArray w:=by
  rcases gw r with f | f
  subst f;cases A <;> simp[Builtin.firstCells,bA.all,loadCells,loadCellsFrom]
  obtain⟨bY,rfl,_,Zj⟩:=H.cells aa;have:=run_loadCellsFrom (P:=P) (w:=w) (p:=bY) (E.all (src.take r)) 0 #[] (λj u a=>by
   have Zk:j<r*E.sz:=by
    have:=(cK.1 a).1
    rwa [v] at this
   have X:0<E.sz:=q.pos
   have Zl:j/E.sz<r:=(Nat.div_lt_iff_lt_mul X).2 Zk
   have Zm:=iH j X
   have Zn:=Nat.div_add_mod j E.sz
   obtain⟨a0,Y⟩ : ∃a0,src[j/E.sz]? = some a0:=⟨src[j/E.sz]'(by have:=H.len;omega),bE _⟩;have Zo: (src.take r)[j/E.sz]? = some a0:=by rw[iD,aw Zl];exact Y
   obtain⟨Z,Za⟩ : ∃Z,(E.enc a0)[j%E.sz]? = some Z:=⟨(E.enc a0)[j%E.sz]'(by rw[E.len];exact Zm),bE _⟩;have J:=E.lQ Zo Za
   have Zb:j/E.sz*E.sz+j%E.sz=j:=by rw[qQ];exact Zn
   rw[Zb,a] at J
   simp only[dA] at J
   subst J;have:=Zj _ _ _ _ Y Za
   rw[add_add,Zb] at this
   rw[dE];exact this)
  rw[v] at this
  simpa [Builtin.firstCells,loadCells] using this
 have Zc:Nat.min k C=r:=Zf.symm
 rcases gw r with f | f
 have Zd: (E.all (src.take r))=[]:=iC (by rw[v,f,qT])
 rw[Zd] at B
 have Zp:w'=w:=by
  simp[storeCells] at B
  exact B.symm
 subst Zp;refine⟨.int .i64 (r:Int),w',?_,h.at U⟩;cases D <;> simp[execOp,resolve,invoke,builtin,s x _ K,s y _ M,Builtin.copy_,run_underlying q.fe,Builtin.lenOf,run_sizeOf O,R,Zc,W,goInt,Zd,storeCells]
 have Zq:=ai f
 subst Zq;refine⟨.int .i64 (r:Int),w',?_,h.at U⟩;simp[execOp,resolve,invoke,builtin,s x _ K,s y _ M,Builtin.copy_,run_underlying q.fe,Builtin.lenOf,run_sizeOf O,R,Zc,W,goInt,B]
theorem QJ {ih:Operand} {args:List Operand} {db:Array TypeId} {f:FuncId} {first cap:List Value} {vs:List Value} {v:Value} {c c':Chunk} {cs':List Chunk} (ak:Nat.blt d n=true) (i:ba l ih=some (.func (.func f) first.toArray cap.toArray)) (j:ad P f) (m:cI l args=some vs) (o:bn cs c c' cs') (a:c'.ch=c.ch) (p:c.ch.Nodup)
 (q: ∀w,af b S cs w→Calls P f (first++vs++cap).toArray w (λe w'=>e= .returned v∧Ext c.ch w w'∧c'.pred w'))
 (h:az P n ops Q rest ((d,v)::l) (af b S cs')):
 az P n ops Q (⟨some d,.call ⟨.value ih,args.toArray,db⟩,ty,pos,a7,none⟩::rest) l (af b S cs):=by
 refine gT i ak j m λw g=>?_
 have:=q w g
 simp only[List.append_toArray];refine this.mono ?_;rintro e w' ⟨rfl,r,ai⟩;exact⟨v,rfl,h.at (g.ie o r ai (λk s=> .inl (a▸s)) (a▸p))⟩
end
end
end Go.Proofs.YtlgnfdodnhokjaaGreatDoor.Mq
