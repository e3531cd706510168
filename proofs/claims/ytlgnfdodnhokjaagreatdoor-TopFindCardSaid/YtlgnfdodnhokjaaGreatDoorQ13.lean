/- part 13 of the proof -/
import Derived.Test.YtlgnfdodnhokjaaGreatDoorQ12
namespace Go.Proofs.YtlgnfdodnhokjaaGreatDoor.Mq
open Go Go.RowKit Go.Proofs Tryz
def j4 (di fn:Int):bh:=⟨0,[],0,⟨0,0,di,fn,0⟩⟩
def jK (L:List bh) (x r:Int) (a:hO):List bh:=
 if x<0∨dw r<1∨(L.length:Int) - dw r<x then L else
 if dw r=2 then (L.set (x.toNat+1) ⟨r,[],2,a⟩).set x.toNat ⟨r,[],1,a⟩ else L.set x.toNat ⟨r,[],0,a⟩
def GR (c:bh) (m:List UInt8):bh:={ c with more:=m }
def mR (L:List bh):List bh:=if 0<L.length then L.set (L.length - 1) rg else L
def fx (L:List bh) (p k:Nat) (an aM:Int):List bh:=L.take p++List.replicate k (j4 an aM)++L.drop (p+k)
def kD (L:List bh) (a to:Int) (an aM:Int):List bh:=
 if max 0 a<min to (L.length:Int) then fx L (max 0 a).toNat ((min to (L.length:Int)).toNat - (max 0 a).toNat) an aM else L
def l3 (L:List bh) (p q m:Nat):List bh:=L.take q++(L.drop p).take m++L.drop (q+m)
def insertC (L:List bh) (x n:Int) (an aM:Int):List bh:=
 if x<0∨(L.length:Int)≤x∨n<1 then L else
 fx (l3 L x.toNat (x+min n (L.length - x)).toNat ((L.length:Int) - x - min n (L.length - x)).toNat) x.toNat (min n (L.length - x)).toNat an aM
def j5 (L:List bh) (x n:Int) (an aM:Int):List bh:=
 if x<0∨(L.length:Int)≤x∨n<1 then L else
 fx (l3 L (x+min n (L.length - x)).toNat x.toNat ((L.length:Int) - x - min n (L.length - x)).toNat) ((L.length:Int) - min n (L.length - x)).toNat (min n (L.length - x)).toNat an aM
def cT (f:List bh→List bh) (L:List bh):List bh:=dg (f (dg L))
theorem rj (L:List bh) (x r:Int) (a:hO): (jK L x r a).length=L.length:=by
 unfold jK;repeat' split
 all_goals simp
theorem xH (L:List bh): (mR L).length=L.length:=by
 unfold mR;split <;> simp
theorem va {L:List bh} {p k:Nat} {an aM:Int} (h:p+k≤L.length): (fx L p k an aM).length=L.length:=by
 unfold fx;simp only[b6,dl,hj,fJ];omega
theorem sZ {L:List bh} {p q m:Nat} (ai:p+m≤L.length) (a:q+m≤L.length): (l3 L p q m).length=L.length:=by
 unfold l3;simp only[b6,dl,fJ];omega
theorem xI (L:List bh) (a b an aM:Int): (kD L a b an aM).length=L.length:=by
 unfold kD;split
 exact va aa;rfl
theorem s0 (L:List bh) (x n an aM:Int): (insertC L x n an aM).length=L.length:=by
 unfold insertC;split
 rfl
 have a: (l3 L x.toNat (x+min n (L.length - x)).toNat ((L.length:Int) - x - min n (L.length - x)).toNat).length=L.length:=sZ aa aa
 rw[va (by rw[a];omega),a]
theorem s3 (L:List bh) (x n an aM:Int): (j5 L x n an aM).length=L.length:=by
 unfold j5;split
 rfl
 have a: (l3 L (x+min n (L.length - x)).toNat x.toNat ((L.length:Int) - x - min n (L.length - x)).toNat).length=L.length:=sZ aa aa
 rw[va (by rw[a];omega),a]
theorem AZ {f:List bh→List bh} (h: ∀L,(f L).length=L.length) (L:List bh): (cT f L).length=L.length:=by
 unfold cT;rw[hP,h,hP]
def dt (v:Value) (a:List bh) (w:World):Ending→World→Prop:=λe w'=>e= .returned (.tuple #[])∧Ext v.ownBlock.toList w w'∧(dN v a).pred w'
theorem A0 {w:World} {v:Value} {m:Nat} {a:List bh} {xs:List Value} (h: (own 215 8 v m xs).pred w) (b:xs=bK.all a) (c:a.length=m): (dN v a).pred w:=by
 subst b c;exact h
theorem s4 {L:List bh} {q:Nat} (c:bh) (h:q<L.length):df (bK.all L) (q*8) c.enc=bK.all (L.set q c):=by
 have:=bA.GQ bK (L:=L) (V:=[c]) (p:=q) (by simp;omega)
 rw[qN,aw h];have e:bK.all [c]=c.enc:=by simp[bA.all,bK]
 rw[e] at this
 exact this.trans av
theorem dt.of {v:Value} {a:List bh} {w b:World} {m:Nat} {xs:List Value} {S:List Nat} {cs:List Chunk} (d:S=v.ownBlock.toList) (c:af w S cs b) (e:Has cs (own 215 8 v m xs)) (f:xs=bK.all a) (g:a.length=m):dt v a w (.returned (.tuple #[])) b:=by
 subst d;exact⟨rfl,c.ext,A0 (c.has e) f g⟩
theorem GS (w:World) (an aM:Int):Calls prog 365 [.agg #[.int .i64 an,.int .i64 aM]].toArray w (Pure (.agg (j4 an aM).enc.toArray) w):=by
 refine aV func365 ntmps365 ?_;refine ah ?_;intro c d e;refine ar ?_;intro f g h;refine al ?_;refine ao rfl FA rfl (λa i=>Gc a ⟨0,0,an,aM,0⟩) ?_;refine ay ?_;intro j b;exact⟨rfl,b.ext⟩
theorem A1 (w:World) (g m c:Nat) (L:List bh) (p k c1:Nat) (b:Option Addr) (an aM:Int) (h: (own 215 8 (.slice (some ⟨g,0,none⟩) m c) m (bK.all L)).pred w) (ai:0<k→b=some ⟨g,p*8,none⟩) (C:p+k≤L.length) (D:L.length≤1000000):
 Calls prog 385 [.slice b k c1,.agg #[.int .i64 an,.int .i64 aM]].toArray w (λe w'=>e= .returned (.tuple #[])∧Ext [g] w w'∧(own 215 8 (.slice (some ⟨g,0,none⟩) m c) m (bK.all (fx L p k an aM))).pred w'):=by
 refine calls (n:=16) func385 rfl ntmps385 rfl ?_;refine cH (H':=af w (own 215 8 (.slice (some ⟨g,0,none⟩) m c) m (bK.all L)).ch [own 215 8 (.slice (some ⟨g,0,none⟩) m c) m (bK.all L)]) ?_ (Sub.refl _) (λx t=>af.qY t h (uE _ _ _ _ _));refine ah ?_;intro l E F;refine aQ ?_;refine b2 (ι:=Nat) (λi=>[(0,.slice b k c1),(3,ptr l),(6,.int .i64 (k:Int)),(7,.int .i64 (i:Int))]) (λi=>af w (own 215 8 (.slice (some ⟨g,0,none⟩) m c) m (bK.all L)).ch [aD l [.int .i64 an,.int .i64 aM] 123,own 215 8 (.slice (some ⟨g,0,none⟩) m c) m (bK.all (fx L p i an aM))]) (λi=>i≤k) (λi=>k - i) ?_ ?_;exact λw' d=>⟨0,bP _,(cj rfl rfl rfl rfl),by
  have e:fx L p 0 an aM=L:=by simp[fx]
  rw[e];exact d⟩
 intro i hi;refine al ?_;refine aj (λu=>?_) (λu=>?_);have G:i<k:=by omega
 have v:=ai aa
 subst v;have y:p+i<(fx L p i an aM).length:=by rw[va aa];omega
 have z:fx L p (i+1) an aM=(fx L p i an aM).set (p+i) (j4 an aM):=by
  unfold fx;apply mz
  intro j;have A: (L.take p).length=p:=by rw[dl];omega
  rw[om];simp only[List.getElem?_append,b6,A,hj,r8,mB,fJ];by_cases a:j<p
  have f: ¬p+i=j:=by omega
  simp[a,f,show j<p+i by omega,show j<p+(i+1) by omega]
  by_cases f:j=p+i
  subst f;simp[a,show p+i - p=i by omega,show i<i+1 by omega,show p+i<p+(i+1) by omega,show p+i<p+i+(L.length - (p+i)) by omega]
  by_cases r:j<p+i
  simp[a,r,show ¬p+i=j by omega,show j<p+(i+1) by omega,show j - p<i by omega,show j - p<i+1 by omega]
  simp[a,r,show ¬p+i=j by omega,show ¬j<p+(i+1) by omega,show p+(i+1)+(j - (p+(i+1)))=j by omega,show p+i+(j - (p+i))=j by omega]
 refine b7 ?_;refine ao rfl Fs rfl (λB H=>GS B an aM) ?_;refine bC (q:=i) dv rfl rfl rfl rfl aa aa ?_;refine mI (o:=(p+i)*8) j0 rfl rfl ew (by rw[Addr.add_lit,ja]) rfl (bK.jc _) (by rw[bK.dI];show (p+i)*8+8≤(fx L p i an aM).length*8;omega) ?_;refine aC ?_;refine bi (i+1) aa aa (cj rfl rfl rfl rfl) (λw' d=>?_);rw[z,←s4 _ y];exact d;refine ay ?_;intro I s;have:i=k:=by omega
 subst this;exact⟨rfl,s.ext,s.has (Has.tail Has.head)⟩
theorem s5 {w:World} {v:Value} {L:List bh} (h: (dN v L).pred w) (x:World) (a:x=w):af w v.ownBlock.toList [dN v L] x:=af.qY a h (uE _ _ _ _ _)
theorem QK (w:World) (v:Value) (L:List bh) (h: (dN v L).pred w) (i:L.length≤1000000):Calls prog 439 ([]++[v]++[]).toArray w (dt v (mR L) w):=by
 refine calls (n:=11) func439 rfl ntmps439 rfl ?_;refine cH (H':=af w v.ownBlock.toList [dN v L]) ?_ (Sub.refl _) (s5 h);refine hE Has.head (λA c b j k l d=>?_);subst b;refine aC ?_;refine aj (λe=>?_) (λe=>?_);obtain⟨g,rfl⟩:=d aa;refine al ?_;refine bC (q:=L.length - 1) dv rfl rfl rfl rfl aa aa ?_;refine mI (o:=(L.length - 1)*8) j0 rfl rfl cA (by rw[Addr.add_lit,dE]) rfl (bK.jc rg) (by rw[bK.dI];show (L.length - 1)*8+8≤L.length*8;omega) ?_;refine aq ?_;intro f a;exact dt.of rfl a Has.head (by rw[mR,aw aa];exact s4 rg aa) (xH L);refine aq ?_;intro f a;exact dt.of rfl a Has.head (by rw[mR,ag aa]) (xH L)
theorem QL (w:World) (f m p:Nat) (x r:Int) (a:hO) (B: (aD f [.int .i32 r] 21).pred w) (i: (aD m [.int .i64 x] 3).pred w) (C: (aD p a.enc 125).pred w)
 (v:Value) (L:List bh) (h: (dN v L).pred w) (M:L.length≤1000000) (ak: ∀k∈v.ownBlock.toList,k≠f∧k≠m∧k≠p):Calls prog 386 ([]++[v]++[ptr f,ptr m,ptr p]).toArray w (dt v (jK L x r a) w):=by
 have N:f∉v.ownBlock.toList:=λl=>(ak _ l).1 rfl
 have O:m∉v.ownBlock.toList:=λl=>(ak _ l).2.1 rfl
 have P:p∉v.ownBlock.toList:=λl=>(ak _ l).2.2 rfl
 refine calls (n:=39) func386 rfl ntmps386 rfl ?_;refine cH (H':=af w v.ownBlock.toList [dN v L]) ?_ (Sub.refl _) (s5 h);refine hE Has.head (λA c D Q R S E=>?_);subst D;have T:=AW r
 refine aq ?_;refine a_ jC rfl rfl (λe b=>b.bU B bv rfl) ?_;refine ao rfl Ah rfl (λF U=>AY F r) ?_;refine al ?_;refine a_ bN rfl rfl (λe b=>b.bU i bv rfl) ?_;refine aq ?_;refine aW 11 rfl (λt=>?_) (λt=>?_)
 ·have G:=aX t
  refine ey ?_;intro s d;exact dt.of rfl d aT (by rw[jK,aw aa]) (rj _ _ _ _)
 ·have G:=bd t
  refine al ?_;refine aW 15 rfl (λaH=>?_) (λaH=>?_)
  ·have H:=aX aH
   refine bH ?_;intro s d;exact dt.of rfl d aT (by rw[jK,aw aa]) (rj _ _ _ _)
  ·have H:=bd aH
   refine ar ?_;refine a_ bN rfl rfl (λe b=>b.bU i bv rfl) ?_;refine bH ?_;refine aj (λI=>?_) (λI=>?_)
   ·skip
    refine ah ?_;intro s d;exact dt.of rfl d aT (by rw[jK,aw aa]) (rj _ _ _ _)
   ·skip
    refine ah ?_;obtain⟨g,rfl⟩:=E aa;obtain⟨y,rfl⟩ : ∃y:Nat,x=(y:Int):=⟨x.toNat,aa⟩;refine ar ?_;refine a_ jC rfl rfl (λe b=>b.bU B bv rfl) ?_;refine cx sw rfl rfl rfl (λe b j u J=>b.jJ (sz:=5) C bv rfl j u J) ?_;refine aq ?_;intro f V W;refine aQ ?_;refine aj (λK=>?_) (λK=>?_)
    ·skip
     refine aJ ?_;refine a_ bN rfl rfl (λe b=>b.bU i bv rfl) ?_;refine aq ?_;refine bC (q:=y+1) dv rfl rfl rfl rfl aa aa ?_;refine mI (o:=(y+1)*8) j0 rfl rfl ew (by rw[Addr.add_lit,dE]) rfl (bK.jc ⟨r,[],2,a⟩) (by rw[bK.dI];show (y+1)*8+8≤L.length*8;omega) ?_;refine aJ ?_;refine a_ bN rfl rfl (λe b=>b.bU i bv rfl) ?_;refine ar ?_;refine bC (q:=y) dv rfl rfl rfl rfl aa aa ?_;refine mI (o:=y*8) j0 rfl rfl ew (by rw[Addr.add_lit,dE]) rfl (AA rfl rfl rfl rfl rfl rfl rfl rfl) (by (rw[DT,bK.dI];show y*8+8≤L.length*8;omega)) ?_;refine aq ?_;intro s d;all_goals exact dt.of rfl d bJ (by rw[jK,ag aa,aw aa];exact (aU (λz=>df z (y*8) (bh.enc ⟨r,[],1,a⟩)) (s4 ⟨r,[],2,a⟩ (by omega:y+1<L.length))).trans (s4 ⟨r,[],1,a⟩ (by rw[gc];omega))) (rj _ _ _ _)
    ·skip
     refine aS ?_;refine a_ bN rfl rfl (λe b=>b.bU i bv rfl) ?_;refine ar ?_;refine bC (q:=y) dv rfl rfl rfl rfl aa aa ?_;refine mI (o:=y*8) j0 rfl rfl ew (by rw[Addr.add_lit,dE]) rfl (AA rfl rfl rfl rfl rfl rfl rfl rfl) (by (rw[bK.dI];show y*8+8≤L.length*8;omega)) ?_;refine aq ?_;intro s d;all_goals exact dt.of rfl d bJ (by rw[jK,ag aa,ag aa];exact s4 ⟨r,[],0,a⟩ (by omega:y<L.length)) (rj _ _ _ _)
abbrev oY (g m c:Nat) (L:List bh):Chunk:=own 215 8 (.slice (some ⟨g,0,none⟩) m c) m (bK.all L)
theorem QM {w:World} {g m c:Nat} {L:List bh} (h: (oY g m c L).pred w) (a:L.length=m):Rd bK w (λ_=>True) (some ⟨g,0,none⟩) m c L:=by
 obtain⟨A,c',b,d⟩:=Rd.gf (E:=bK) (show w.ownsRow 0 215 bK.sz _ _ (bK.all L) from h) a;injection b with e i f
 subst e f;exact d.dC (λ_ _=>a1)
theorem GT {w:World} {g m c:Nat} {L:List bh} (h: (oY g m c L).pred w) (a:L.length=m) {p:Nat} (ai:p≤m):Rd bK w (λ_=>True) (if c=p then some ⟨g,0,none⟩ else (some (⟨g,0,none⟩ :Addr)).map (·.add (p*8))) (m - p) (c - p) (L.drop p):=by
 have:=(QM h a).cut ai (bW m)
 rwa [←a,ow,a] at this
theorem QN (w:World) (e f i:Nat) (fr to an aM:Int) (p: (aD e [.int .i64 fr] 3).pred w) (q: (aD f [.int .i64 to] 3).pred w) (r: (aD i [.int .i64 an,.int .i64 aM] 123).pred w)
 (v:Value) (L:List bh) (h: (dN v L).pred w) (s:L.length≤1000000) (ak: ∀k∈v.ownBlock.toList,k≠e∧k≠f∧k≠i):Calls prog 384 ([]++[v]++[ptr e,ptr f,ptr i]).toArray w (dt v (kD L fr to an aM) w):=by
 have E:e∉v.ownBlock.toList:=λb=>(ak _ b).1 rfl
 have F:f∉v.ownBlock.toList:=λb=>(ak _ b).2.1 rfl
 have G:i∉v.ownBlock.toList:=λb=>(ak _ b).2.2 rfl
 refine calls (n:=22) func384 rfl ntmps384 rfl ?_;refine cH (H':=af w v.ownBlock.toList [dN v L]) ?_ (Sub.refl _) (s5 h);refine hE Has.head (λA c t H I J x=>?_);subst t;refine ar ?_;refine bF [0,1,2,3,4,5,6,7] 0 [[]] ?_;refine aL rfl (λl a=>(a_ bN rfl rfl (λo d=>by subst d;exact a.bU p bv rfl) aG)) ?_;refine ar ?_;refine aL rfl (λl a=>(a_ bN rfl rfl (λo d=>by subst d;exact a.bU q bv rfl) aG)) ?_;refine cF ?_;refine aj (λy=>?_) (λy=>?_);obtain⟨g,rfl⟩:=x aa;refine bF [0,1,2,3,4] 1 [[(5,true,[])]] ?_;refine ah ?_;refine aL rfl (λl a=>(fz (max 0 fr).toNat (min to (L.length:Int)).toNat dv rfl rfl (.inl ⟨_,_,rfl,rfl,aa⟩) (.inl ⟨_,_,rfl,rfl,aa⟩) aa aa aG)) ?_;refine aL rfl (λl a=>(cx gA rfl rfl rfl (λo d j u z=>by subst d;exact a.jJ (sz:=2) r bv rfl j u z) aG)) ?_;refine aq ?_;refine qX (v:= .tuple #[]) (c:=oY g L.length c L) (c':=oY g L.length c (fx L (max 0 fr).toNat ((min to (L.length:Int)).toNat - (max 0 fr).toNat) an aM)) rfl Al rfl cA rfl (λB C=>A1 B g L.length c L (max 0 fr).toNat _ _ _ an aM (C.has aT) (λ_=>by rw[ag aa];simp[Addr.add_lit]) aa s) ?_;refine aS ?_;intro D m;exact dt.of rfl m aT (by rw[kD,aw aa]) (xI _ _ _ _ _);refine aq ?_;intro D m;exact dt.of rfl m aT (by rw[kD,ag aa]) (xI _ _ _ _ _)
theorem QO (w:World) (o p q:Nat) (x n an aM:Int) (b: (aD o [.int .i64 x] 3).pred w) (z: (aD p [.int .i64 n] 3).pred w) (B: (aD q [.int .i64 an,.int .i64 aM] 123).pred w)
 (v:Value) (L:List bh) (h: (dN v L).pred w) (C:L.length≤1000000) (ak: ∀k∈v.ownBlock.toList,k≠o∧k≠p∧k≠q):Calls prog 419 ([]++[v]++[ptr o,ptr p,ptr q]).toArray w (dt v (insertC L x n an aM) w):=by
 have Q:o∉v.ownBlock.toList:=λl=>(ak _ l).1 rfl
 have R:p∉v.ownBlock.toList:=λl=>(ak _ l).2.1 rfl
 have S:q∉v.ownBlock.toList:=λl=>(ak _ l).2.2 rfl
 refine calls (n:=41) func419 rfl ntmps419 rfl ?_;refine cH (H':=af w v.ownBlock.toList [dN v L]) ?_ (Sub.refl _) (s5 h);refine hE Has.head (λA c D T U V G=>?_);subst D;refine ah ?_;refine a_ bN rfl rfl (λr d=>d.bU b bv rfl) ?_;refine aq ?_;refine aW 8 rfl (λs=>?_) (λs=>?_);have H:=aX s
 refine cF ?_;intro t f;exact dt.of rfl f aT (by rw[insertC,aw aa]) (s0 _ _ _ _ _);have H:=bd s
 refine ar ?_;refine a_ bN rfl rfl (λr d=>d.bU b bv rfl) ?_;refine aK ?_;refine aW 14 rfl (λaH=>?_) (λaH=>?_);have I:=aX aH
 refine aJ ?_;intro t f;exact dt.of rfl f aT (by rw[insertC,aw aa]) (s0 _ _ _ _ _);have I:=bd aH
 refine ar ?_;refine a_ bN rfl rfl (λr d=>d.bU z bv rfl) ?_;refine ay ?_;refine aj (λJ=>?_) (λJ=>?_);refine ah ?_;intro t f;exact dt.of rfl f aT (by rw[insertC,aw aa]) (s0 _ _ _ _ _);refine ah ?_;obtain⟨g,rfl⟩:=G aa;obtain⟨y,rfl⟩ : ∃y:Nat,x=(y:Int):=⟨x.toNat,aa⟩;obtain⟨N,K⟩ : ∃N:Nat,min n ((L.length:Int) - (y:Int))=(N:Int):=⟨(min n ((L.length:Int) - (y:Int))).toNat,aa⟩;refine ar ?_;refine a_ bN rfl rfl (λr d=>d.bU z bv rfl) ?_;refine aq ?_;refine a_ bN rfl rfl (λr d=>d.bU b bv rfl) ?_;refine al ?_;refine bF [0,1,2,3,4,5,6,7] 1 [[(8,true,[])]] ?_;refine ar ?_;refine aL rfl (λi a=>(a_ bN rfl rfl (λm e=>by subst e;exact a.bU b bv rfl) aG)) ?_;refine aq ?_;refine aL rfl (λi a=>(fz (y+N) L.length dv rfl rfl (.inl ⟨_,_,rfl,rfl,aa⟩) (.inr ⟨rfl,rfl⟩) aa aa aG)) ?_;refine ar ?_;refine aL rfl (λi a=>(a_ bN rfl rfl (λm e=>by subst e;exact a.bU b bv rfl) aG)) ?_;refine aL rfl (λi a=>(fz y L.length dv rfl rfl (.inl ⟨_,_,rfl,rfl,aa⟩) (.inr ⟨rfl,rfl⟩) aa aa aG)) ?_;refine aq ?_;refine xG (E:=bK) (L:=L) (src:=L.drop y) (g:=g) (F:=λ_=>True) (y+N) (L.length - y - N) aa dv rfl rfl rfl (λW=>by rw[ag aa];simp[Addr.add_lit];rfl) aa cA (λm b=>GT (b.has aT) rfl aa) ?_;refine aS ?_;refine bF [0,1,2,3,4,5,6] 1 [[(7,true,[])]] ?_;refine ar ?_;refine aL rfl (λi a=>(a_ bN rfl rfl (λm e=>by subst e;exact a.bU b bv rfl) aG)) ?_;refine aL rfl (λi a=>(a_ bN rfl rfl (λm e=>by subst e;exact a.bU b bv rfl) aG)) ?_;refine aq ?_;refine aL rfl (λi a=>(fz y (y+N) dv rfl rfl (.inl ⟨_,_,rfl,rfl,aa⟩) (.inl ⟨_,_,rfl,rfl,aa⟩) aa aa aG)) ?_;refine aL rfl (λi a=>(cx gA rfl rfl rfl (λm e j u M=>by subst e;exact a.jJ (sz:=2) B bv rfl j u M) aG)) ?_;refine aq ?_;refine qX (v:= .tuple #[]) (c:=oY g L.length c (l3 L y (y+N) (L.length - y - N))) (c':=oY g L.length c (fx (l3 L y (y+N) (L.length - y - N)) y (y+N - y) an aM)) rfl Al rfl cA rfl (λO P=>A1 O g L.length c _ y _ _ _ an aM (P.has aT) (λ_=>by rw[ag aa];simp[Addr.add_lit]) (by rw[sZ aa aa];omega) (by rw[sZ aa aa];exact C)) ?_;refine aS ?_;intro t f;exact dt.of rfl f aT (by rw[insertC,ag aa,K,show ((y:Int)+(N:Int)).toNat=y+N by omega,show ((L.length:Int) - (y:Int) - (N:Int)).toNat=L.length - y - N by omega,show ((y:Int)).toNat=y by omega,show ((N:Int)).toNat=N by omega,show y+N - y=N by omega]) (s0 _ _ _ _ _)
theorem QP (w:World) (m o p:Nat) (x n an aM:Int) (d: (aD m [.int .i64 x] 3).pred w) (z: (aD o [.int .i64 n] 3).pred w) (B: (aD p [.int .i64 an,.int .i64 aM] 123).pred w)
 (v:Value) (L:List bh) (h: (dN v L).pred w) (C:L.length≤1000000) (ak: ∀k∈v.ownBlock.toList,k≠m∧k≠o∧k≠p):Calls prog 423 ([]++[v]++[ptr m,ptr o,ptr p]).toArray w (dt v (j5 L x n an aM) w):=by
 have Q:m∉v.ownBlock.toList:=λf=>(ak _ f).1 rfl
 have R:o∉v.ownBlock.toList:=λf=>(ak _ f).2.1 rfl
 have S:p∉v.ownBlock.toList:=λf=>(ak _ f).2.2 rfl
 refine calls (n:=41) func423 rfl ntmps423 rfl ?_;refine cH (H':=af w v.ownBlock.toList [dN v L]) ?_ (Sub.refl _) (s5 h);refine hE Has.head (λA c D T U V G=>?_);subst D;refine ah ?_;refine a_ bN rfl rfl (λq a=>a.bU d bv rfl) ?_;refine aq ?_;refine aW 8 rfl (λr=>?_) (λr=>?_);have H:=aX r
 refine cF ?_;intro s e;exact dt.of rfl e aT (by rw[j5,aw aa]) (s3 _ _ _ _ _);have H:=bd r
 refine ar ?_;refine a_ bN rfl rfl (λq a=>a.bU d bv rfl) ?_;refine aK ?_;refine aW 14 rfl (λaH=>?_) (λaH=>?_);have I:=aX aH
 refine aJ ?_;intro s e;exact dt.of rfl e aT (by rw[j5,aw aa]) (s3 _ _ _ _ _);have I:=bd aH
 refine ar ?_;refine a_ bN rfl rfl (λq a=>a.bU z bv rfl) ?_;refine ay ?_;refine aj (λJ=>?_) (λJ=>?_);refine ah ?_;intro s e;exact dt.of rfl e aT (by rw[j5,aw aa]) (s3 _ _ _ _ _);refine ah ?_;obtain⟨g,rfl⟩:=G aa;obtain⟨y,rfl⟩ : ∃y:Nat,x=(y:Int):=⟨x.toNat,aa⟩;obtain⟨N,K⟩ : ∃N:Nat,min n ((L.length:Int) - (y:Int))=(N:Int):=⟨(min n ((L.length:Int) - (y:Int))).toNat,aa⟩;refine ar ?_;refine a_ bN rfl rfl (λq a=>a.bU z bv rfl) ?_;refine aq ?_;refine a_ bN rfl rfl (λq a=>a.bU d bv rfl) ?_;refine al ?_;refine bF [0,1,2,3,4,5,6,7] 1 [[(8,true,[])]] ?_;refine ar ?_;refine aL rfl (λi b=>(a_ bN rfl rfl (λt l=>by subst l;exact b.bU d bv rfl) aG)) ?_;refine aL rfl (λi b=>(fz y L.length dv rfl rfl (.inl ⟨_,_,rfl,rfl,aa⟩) (.inr ⟨rfl,rfl⟩) aa aa aG)) ?_;refine ar ?_;refine aL rfl (λi b=>(a_ bN rfl rfl (λt l=>by subst l;exact b.bU d bv rfl) aG)) ?_;refine aq ?_;refine aL rfl (λi b=>(fz (y+N) L.length dv rfl rfl (.inl ⟨_,_,rfl,rfl,aa⟩) (.inr ⟨rfl,rfl⟩) aa aa aG)) ?_;refine aq ?_;refine xG (E:=bK) (L:=L) (src:=L.drop (y+N)) (g:=g) (F:=λ_=>True) y (L.length - y - N) aa dv rfl rfl rfl (λW=>by rw[ag aa];simp[Addr.add_lit];rfl) aa cA (λt d=>GT (d.has aT) rfl aa) ?_;refine aS ?_;refine bF [0,1,2,3,4,5,6] 1 [[(7,true,[])]] ?_;refine ay ?_;refine aL rfl (λi b=>(fz (L.length - N) L.length dv rfl rfl (.inl ⟨_,_,rfl,rfl,aa⟩) (.inr ⟨rfl,rfl⟩) aa aa aG)) ?_;refine aL rfl (λi b=>(cx gA rfl rfl rfl (λt l j u M=>by subst l;exact b.jJ (sz:=2) B bv rfl j u M) aG)) ?_;refine aq ?_;refine qX (v:= .tuple #[]) (c:=oY g L.length c (l3 L (y+N) y (L.length - y - N))) (c':=oY g L.length c (fx (l3 L (y+N) y (L.length - y - N)) (L.length - N) (L.length - (L.length - N)) an aM)) rfl Al rfl cA rfl (λO P=>A1 O g L.length c _ (L.length - N) _ _ _ an aM (P.has aT) (λ_=>by rw[ag aa];simp[Addr.add_lit]) (by rw[sZ aa aa];omega) (by rw[sZ aa aa];exact C)) ?_;refine aS ?_;intro s e;exact dt.of rfl e aT (by rw[j5,ag aa,K,show ((y:Int)+(N:Int)).toNat=y+N by omega,show ((L.length:Int) - (y:Int) - (N:Int)).toNat=L.length - y - N by omega,show ((y:Int)).toNat=y by omega,show ((N:Int)).toNat=N by omega,show ((L.length:Int) - (N:Int)).toNat=L.length - N by omega,show L.length - (L.length - N)=N by omega]) (s3 _ _ _ _ _)
def hs (L:List bh) (q:Nat) (m:List UInt8):List bh:=match L[q]? with | some d=>L.set q (GR d m) | none=>L
def eG (L:List bh) (x r:Int):List bh:=
 if x<0∨(L.length:Int)≤x then L else
 match L[x.toNat]? with
 | none=>L
 | some c=>
  if c.r=0∨dw r≠0 then L else
  if 32<(c.more++fX r).length then L else
  hs (if c.half=1 then hs L (x.toNat+1) (c.more++fX r) else if c.half=2 then hs L (x.toNat - 1) (c.more++fX r) else L) x.toNat (c.more++fX r)
theorem A2 (L:List bh) (q:Nat) (m:List UInt8): (hs L q m).length=L.length:=by
 unfold hs;split <;> simp
theorem fL (L:List bh) (x r:Int): (eG L x r).length=L.length:=by
 unfold eG;split
 rfl
 split
 rfl
 split
 rfl
 split
 rfl
 rw[A2];split
 exact A2 _ _ _;split
 exact A2 _ _ _;rfl
theorem QQ {L:List bh}:dg L=L→ ∀q c,L[q]? = some c→(c.half=1→q+1<L.length)∧(c.half=2→0<q):=by
 fun_induction dg L with
 | case1=>intro _ q c h;simp at h
 | case2 c=>
  intro b q d h;obtain⟨rfl,rfl⟩ :q=0∧c=d:=by
   cases q with
   | zero=>simpa using h
   | succ q=>simp at h
  have a: (if c.half=0∨c.half=3 then c else gY c.at_)=c:=by simpa using b
  constructor
  intro f;rw[ag aa] at a
  rw[←a] at f;simp[gY] at f
  intro f;rw[ag aa] at a
  rw[←a] at f;simp[gY] at f
 | case3 c d l j g=>
  intro b q e h;have i:dg (d::l)=d::l:=by simpa using b
  cases q with
  | zero=>
   have:c=e:=by simpa using h
   subst this;exact⟨λa=>by omega,λa=>by omega⟩
  | succ q=>
   have:=g i q e (by simpa using h)
   exact⟨λa=>by have:=this.1 a;simp at this ⊢;omega,λ_=>by omega⟩
 | case4 c d l j ai g=>
  intro b q e h;have i:dg l=l:=by simpa using b
  match q,h with
  | 0,h=>
   have:c=e:=by simpa using h
   subst this;refine⟨λ_=>by simp,λf=>?_⟩;simp[p3] at ai
   omega
  | 1,h=>
   have:d=e:=by simpa using h
   subst this;refine⟨λa=>?_,λ_=>by omega⟩;simp[p3] at ai
   omega
  | q+2,h=>
   have:=g i q e (by simpa using h)
   exact⟨λa=>by have:=this.1 a;simp;omega,λ_=>by omega⟩
 | case5 c d l j ai g=>
  intro b q e h;have k:gY c.at_=c∧dg (d::l)=d::l:=by simpa using b
  cases q with
  | zero=>
   have:c=e:=by simpa using h
   subst this;have m:c.half=0:=by rw[←k.1];rfl
   exact⟨λa=>by omega,λa=>by omega⟩
  | succ q=>
   have:=g k.2 q e (by simpa using h)
   exact⟨λa=>by have:=this.1 a;simp at this ⊢;omega,λ_=>by omega⟩
theorem fB {L:List bh} {q:Nat} {m:List UInt8} {c:bh} (h:L[q]? = some c): (bK.all L).set (q*8+1) (.string (bs m))=bK.all (hs L q m):=by
 have:=bA.pF bK (j:=1) (a':=GR c m) (v:= .string (bs m)) h aZ rfl
 rw[hs,h];exact this
theorem QR (w:World) (t u:Nat) (x r:Int) (l: (aD t [.int .i64 x] 3).pred w) (K: (aD u [.int .i32 r] 21).pred w)
 (v:Value) (L:List bh) (h: (dN v L).pred w) (Y:L.length≤1000000) (M:dg L=L) (N: ∀c∈L,c.more.length≤1000000) (ak: ∀k∈v.ownBlock.toList,k≠t∧k≠u):Calls prog 417 ([]++[v]++[ptr t,ptr u]).toArray w (dt v (eG L x r) w):=by
 have Z:t∉v.ownBlock.toList:=λC=>(ak _ C).1 rfl
 have Za:u∉v.ownBlock.toList:=λC=>(ak _ C).2 rfl
 have Zb:=AM r
 refine calls (n:=63) func417 rfl ntmps417 rfl ?_;refine cH (H':=af w v.ownBlock.toList [dN v L]) ?_ (Sub.refl _) (s5 h);refine hE Has.head (λA Zc O Zd Ze Zf P=>?_);subst O;refine ah ?_;refine a_ bN rfl rfl (λj i=>i.bU l bv rfl) ?_;refine aq ?_;refine aW 7 rfl (λD=>?_) (λD=>?_)
 ·have Q:=aX D
  refine jF ?_;intro m b;exact dt.of rfl b aT (by rw[eG,aw aa]) (fL _ _ _);all_goals have e: ((y:Int)).toNat=y:=fV y
  all_goals first | exact dt.of rfl b fS (by rw[eG,ag aa,e,a];dsimp only;rw[aw aa]) (fL _ _ _) | exact dt.of rfl b fS (by rw[eG,ag aa,e,a];dsimp only;rw[ag aa,aw aa]) (fL _ _ _) | skip
  all_goals first | exact dt.of rfl b fS (by rw[eG,ag aa,e,a];dsimp only;rw[ag aa,ag aa,aw aa];exact (aU (λz=>List.set z (y*8+1) (Value.string (bs (c.more++fX r)))) (fB f)).trans (fB (c:=c) (by rw[hs,f];dsimp only;rw[jA aa];exact a))) (fL _ _ _) | exact dt.of rfl b fS (by rw[eG,ag aa,e,a];dsimp only;rw[ag aa,ag aa,ag aa,aw aa];exact (aU (λz=>List.set z (y*8+1) (Value.string (bs (c.more++fX r)))) (fB f)).trans (fB (c:=c) (by rw[hs,f];dsimp only;rw[jA aa];exact a))) (fL _ _ _) | exact dt.of rfl b fS (by rw[eG,ag aa,e,a];dsimp only;rw[ag aa,ag aa,ag aa,ag aa];exact fB a) (fL _ _ _)
 ·have Q:=bd D
  refine ar ?_;refine a_ bN rfl rfl (λj i=>i.bU l bv rfl) ?_;refine aK ?_;refine aW 13 rfl (λaH=>?_) (λaH=>?_)
  ·have R:=aX aH
   refine eR ?_;intro m b;exact dt.of rfl b aT (by rw[eG,aw aa]) (fL _ _ _);all_goals have e: ((y:Int)).toNat=y:=fV y
   all_goals first | exact dt.of rfl b fS (by rw[eG,ag aa,e,a];dsimp only;rw[aw aa]) (fL _ _ _) | exact dt.of rfl b fS (by rw[eG,ag aa,e,a];dsimp only;rw[ag aa,aw aa]) (fL _ _ _) | skip
   all_goals first | exact dt.of rfl b fS (by rw[eG,ag aa,e,a];dsimp only;rw[ag aa,ag aa,aw aa];exact (aU (λz=>List.set z (y*8+1) (Value.string (bs (c.more++fX r)))) (fB f)).trans (fB (c:=c) (by rw[hs,f];dsimp only;rw[jA aa];exact a))) (fL _ _ _) | exact dt.of rfl b fS (by rw[eG,ag aa,e,a];dsimp only;rw[ag aa,ag aa,ag aa,aw aa];exact (aU (λz=>List.set z (y*8+1) (Value.string (bs (c.more++fX r)))) (fB f)).trans (fB (c:=c) (by rw[hs,f];dsimp only;rw[jA aa];exact a))) (fL _ _ _) | exact dt.of rfl b fS (by rw[eG,ag aa,e,a];dsimp only;rw[ag aa,ag aa,ag aa,ag aa];exact fB a) (fL _ _ _)
  ·have R:=bd aH
   refine ah ?_;refine a_ bN rfl rfl (λj i=>i.bU l bv rfl) ?_;obtain⟨g,rfl⟩:=P aa;obtain⟨y,rfl⟩ : ∃y:Nat,x=(y:Int):=⟨x.toNat,aa⟩;obtain⟨c,a⟩ : ∃c,L[y]? = some c:=⟨L[y]'aa,bE _⟩;have Zg:=N c (da a)
   have F:=QQ M y c a
   refine ar ?_;refine bC (q:=y) dv rfl rfl rfl rfl aa aa ?_;refine ah ?_;refine a_ jC rfl rfl (λj i=>i.k5 (E:=bK) aT a 0 _ rfl) ?_;refine aS ?_;refine aW 21 rfl (λG=>?_) (λG=>?_)
   ·have S:=aX G
    refine aQ ?_;intro m b;all_goals have e: ((y:Int)).toNat=y:=fV y
    all_goals exact dt.of rfl b aT (by rw[eG,ag aa,e,a];dsimp only;rw[aw aa]) (fL _ _ _)
    all_goals first | exact dt.of rfl b fS (by rw[eG,ag aa,e,a];dsimp only;rw[ag aa,ag aa,aw aa];exact (aU (λz=>List.set z (y*8+1) (Value.string (bs (c.more++fX r)))) (fB f)).trans (fB (c:=c) (by rw[hs,f];dsimp only;rw[jA aa];exact a))) (fL _ _ _) | exact dt.of rfl b fS (by rw[eG,ag aa,e,a];dsimp only;rw[ag aa,ag aa,ag aa,aw aa];exact (aU (λz=>List.set z (y*8+1) (Value.string (bs (c.more++fX r)))) (fB f)).trans (fB (c:=c) (by rw[hs,f];dsimp only;rw[jA aa];exact a))) (fL _ _ _) | exact dt.of rfl b fS (by rw[eG,ag aa,e,a];dsimp only;rw[ag aa,ag aa,ag aa,ag aa];exact fB a) (fL _ _ _)
   ·have S:=bd G
    refine ar ?_;refine a_ jC rfl rfl (λj i=>i.bU K bv rfl) ?_;refine ar ?_;refine ao rfl Ah rfl (λH a=>AY H r) ?_;refine ay ?_;refine aj (λs=>?_) (λs=>?_)
    ·skip
     refine ah ?_;intro m b;all_goals have e: ((y:Int)).toNat=y:=fV y
     all_goals exact dt.of rfl b aT (by rw[eG,ag aa,e,a];dsimp only;rw[aw aa]) (fL _ _ _)
     all_goals first | exact dt.of rfl b fS (by rw[eG,ag aa,e,a];dsimp only;rw[ag aa,ag aa,aw aa];exact (aU (λz=>List.set z (y*8+1) (Value.string (bs (c.more++fX r)))) (fB f)).trans (fB (c:=c) (by rw[hs,f];dsimp only;rw[jA aa];exact a))) (fL _ _ _) | exact dt.of rfl b fS (by rw[eG,ag aa,e,a];dsimp only;rw[ag aa,ag aa,ag aa,aw aa];exact (aU (λz=>List.set z (y*8+1) (Value.string (bs (c.more++fX r)))) (fB f)).trans (fB (c:=c) (by rw[hs,f];dsimp only;rw[jA aa];exact a))) (fL _ _ _) | exact dt.of rfl b fS (by rw[eG,ag aa,e,a];dsimp only;rw[ag aa,ag aa,ag aa,ag aa];exact fB a) (fL _ _ _)
    ·skip
     refine ah ?_;refine bF [0,1,2,3,4,5] 1 [[(6,false,[7,8])]] ?_;refine ar ?_;refine aL rfl (λB p=>(a_ bN rfl rfl (λT I=>by subst I;exact p.bU l bv rfl) aG)) ?_;refine aL rfl (λB p=>(bC (q:=y) dv rfl rfl rfl rfl aa aa aG)) ?_;refine ar ?_;refine aL rfl (λB p=>(a_ no rfl rfl (λj U=>by subst U;exact p.k5 (E:=bK) aT a 1 _ rfl) aG)) ?_;refine aL rfl (λB p=>(a_ jC rfl rfl (λT I=>by subst I;exact p.bU K bv rfl) aG)) ?_;refine aq ?_;refine ao rfl EO rfl (λH a=>Gw H r) ?_;refine ar ?_;refine aL rfl (λB p=>(eJ rfl rfl rfl aa aG)) ?_;refine bx ?_;refine aj (λV=>?_) (λV=>?_)
     ·skip
      refine ah ?_;intro m b;have J:=Decidable.not_not.1 s
      all_goals have e: ((y:Int)).toNat=y:=fV y
      all_goals exact dt.of rfl b aT (by rw[eG,ag aa,e,a];dsimp only;rw[ag aa,aw aa]) (fL _ _ _)
      all_goals first | exact dt.of rfl b fS (by rw[eG,ag aa,e,a];dsimp only;rw[ag aa,ag aa,aw aa];exact (aU (λz=>List.set z (y*8+1) (Value.string (bs (c.more++fX r)))) (fB f)).trans (fB (c:=c) (by rw[hs,f];dsimp only;rw[jA aa];exact a))) (fL _ _ _) | exact dt.of rfl b fS (by rw[eG,ag aa,e,a];dsimp only;rw[ag aa,ag aa,ag aa,aw aa];exact (aU (λz=>List.set z (y*8+1) (Value.string (bs (c.more++fX r)))) (fB f)).trans (fB (c:=c) (by rw[hs,f];dsimp only;rw[jA aa];exact a))) (fL _ _ _) | exact dt.of rfl b fS (by rw[eG,ag aa,e,a];dsimp only;rw[ag aa,ag aa,ag aa,ag aa];exact fB a) (fL _ _ _)
     ·skip
      refine al ?_;refine a_ bN rfl rfl (λj i=>i.bU l bv rfl) ?_;refine bC (q:=y) dv rfl rfl rfl rfl aa aa ?_;refine ar ?_;refine a_ bN rfl rfl (λj i=>i.k5 (E:=bK) aT a 2 _ rfl) ?_;refine aJ ?_;refine aj (λW=>?_) (λW=>?_)
      ·skip
       obtain⟨d,f⟩ : ∃d,L[y+1]? = some d:=⟨L[y+1]'(F.1 aa),bE _⟩;have Zh:=F.1 aa
       refine aq ?_;refine a_ bN rfl rfl (λj i=>i.bU l bv rfl) ?_;refine aq ?_;refine bC (q:=y+1) dv rfl rfl rfl rfl aa aa ?_;refine ar ?_;refine k4 (o:=(y+1)*8+1) no rfl rfl cA (by simp[Addr.add_lit]) rfl (by rw[bK.dI];show (y+1)*8+1<L.length*8;omega) ?_;refine ay ?_;refine a_ bN rfl rfl (λj i=>i.bU l bv rfl) ?_;refine ar ?_;refine bC (q:=y) dv rfl rfl rfl rfl aa aa ?_;refine ar ?_;refine k4 (o:=y*8+1) no rfl rfl cA (by simp[Addr.add_lit]) rfl (by (rw[gc,bK.dI];show y*8+1<L.length*8;omega)) ?_;refine aq ?_;intro m b;have J:=Decidable.not_not.1 s
       all_goals have e: ((y:Int)).toNat=y:=fV y
       all_goals skip
       all_goals exact dt.of rfl b aT (by rw[eG,ag aa,e,a];dsimp only;rw[ag aa,ag aa,aw aa];exact (aU (λz=>List.set z (y*8+1) (Value.string (bs (c.more++fX r)))) (fB f)).trans (fB (c:=c) (by rw[hs,f];dsimp only;rw[jA aa];exact a))) (fL _ _ _)
      ·skip
       refine al ?_;refine aj (λX=>?_) (λX=>?_)
       ·skip
        have Zi:=F.2 aa
        obtain⟨d,f⟩ : ∃d,L[y - 1]? = some d:=⟨L[y - 1]'aa,bE _⟩;refine aq ?_;refine a_ bN rfl rfl (λj i=>i.bU l bv rfl) ?_;refine aq ?_;refine bC (q:=y - 1) dv rfl rfl rfl rfl aa aa ?_;refine ar ?_;refine k4 (o:=(y - 1)*8+1) no rfl rfl cA (by simp[Addr.add_lit]) rfl (by rw[bK.dI];show (y - 1)*8+1<L.length*8;omega) ?_;refine ay ?_;refine a_ bN rfl rfl (λj i=>i.bU l bv rfl) ?_;refine ar ?_;refine bC (q:=y) dv rfl rfl rfl rfl aa aa ?_;refine ar ?_;refine k4 (o:=y*8+1) no rfl rfl cA (by simp[Addr.add_lit]) rfl (by (rw[gc,bK.dI];show y*8+1<L.length*8;omega)) ?_;refine aq ?_;intro m b;have J:=Decidable.not_not.1 s
        all_goals have e: ((y:Int)).toNat=y:=fV y
        all_goals skip
        all_goals exact dt.of rfl b aT (by rw[eG,ag aa,e,a];dsimp only;rw[ag aa,ag aa,ag aa,aw aa];exact (aU (λz=>List.set z (y*8+1) (Value.string (bs (c.more++fX r)))) (fB f)).trans (fB (c:=c) (by rw[hs,f];dsimp only;rw[jA aa];exact a))) (fL _ _ _)
       ·skip
        refine ay ?_;refine a_ bN rfl rfl (λj i=>i.bU l bv rfl) ?_;refine ar ?_;refine bC (q:=y) dv rfl rfl rfl rfl aa aa ?_;refine ar ?_;refine k4 (o:=y*8+1) no rfl rfl cA (by simp[Addr.add_lit]) rfl (by (rw[bK.dI];show y*8+1<L.length*8;omega)) ?_;refine aq ?_;intro m b;have J:=Decidable.not_not.1 s
        all_goals have e: ((y:Int)).toNat=y:=fV y
        all_goals skip
        all_goals exact dt.of rfl b aT (by rw[eG,ag aa,e,a];dsimp only;rw[ag aa,ag aa,ag aa,ag aa];exact fB a) (fL _ _ _)
end Go.Proofs.YtlgnfdodnhokjaaGreatDoor.Mq
