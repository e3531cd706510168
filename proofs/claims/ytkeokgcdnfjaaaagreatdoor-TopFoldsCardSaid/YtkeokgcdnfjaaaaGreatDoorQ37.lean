/- part 37 of the proof -/
import Derived.Test.YtkeokgcdnfjaaaaGreatDoorQ36
import Derived.Shelf.Strings.BuilderK
import Derived.MapKept
namespace Go.Proofs.YtkeokgcdnfjaaaaGreatDoor.Mq
open Go Go.RowKit Go.Proofs Tryz
def yI (f b M:Nat) {ι:Type} (X:ι→Chunk) (ok:List UInt8→ι→Prop):Prop:= ∀(a:World) (s:List UInt8) (i:ι) (t:List UInt8) (p:bl),ok s i→s.length+t.length≤M→bb a [X i]→
 Calls prog f (([]:List Value)++[Value.string (bs t),d9 p]++[ptr b]).toArray a (aP (λ_:ι=> .tuple #[]) [X i] (λj=>[X j]) (λj=>ok (s++t) j) a)
set_option maxHeartbeats 1000000 in
theorem J_ (w:World) {ι:Type} (X:ι→Chunk) (ok:List UInt8→ι→Prop) (g:ι) (A:Option Addr) (n c:Nat) (rows:List bQ) (r:ep w (λk=>k∉aB [X g]) A n c rows) (fr to:bl) (f b M:Nat) (Za:ad prog f) (Zb:yI f b M X ok) (s:List UInt8) (l0 l1:Nat) (ZI:l0<l1) (Zj:l1≤n) (Zk:n≤1000000) (Zc:0≤to.dm)
 (Zl: ∀row∈rows,∀x∈row.1,x.more.length≤1000000) (o:s.length+(vQ rows fr to l0 l1).length≤M) (Zm:bb w [X g]) (Zn:ok s g):
 Calls prog 124 [.agg (ke f A n c fr to b).toArray,.agg [.int .i64 (l0:Int),.int .i64 (l1:Int)].toArray].toArray w (aP (λ_:ι=> .tuple #[]) [X g] (λj=>[X j]) (λj=>ok (s++vQ rows fr to l0 l1) j) w):=by
 have ZJ:=r.len
 refine bI func124 ntmps124 Zm ?_;refine ah ?_;intro t ZK ZL;refine aq ?_;intro v ZM ZN;refine al ?_;refine ao rfl M6 rfl (λw' e=>Xd w' _ A n c rows (r.ext e.ext (λ_ h=>h)) fr to f b l0 l1 Zj Zk Zc) ?_;refine aq ?_;intro B ZO ZP;refine al ?_;refine dq (q:=0) underlying231 gr rfl rfl rfl a7 aa ?_;refine ay ?_;unfold vQ at o ⊢
 obtain⟨en,Zd⟩ : ∃en,en=lK rows fr to l0 l1:=⟨_,rfl⟩;rw[←Zd] at o ⊢
 refine b3 (ι:=Nat × ι) (λq=>[(5,.int .i64 (q.1 :Int)),(2,ptr t),(3,ptr v),(4,ptr B)]) (λq=>af w (aB [X g]) [X q.2,aD B en.enc 40,aD v [.int .i64 (l0:Int),.int .i64 (l1:Int)] 231,aD t (ke f A n c fr to b) 228]) (λq=>(l0≤q.1∧q.1≤l1)∧ok (s++jd rows fr to en l0 q.1) q.2) (λq=>l1 - q.1) ?_ ?_;exact λw' e=>⟨(l0,g),⟨⟨cd _,by dsimp only;omega⟩,by rw[At rows fr to en l0 l0 (cd _),fJ];exact Zn⟩,(cu rfl rfl rfl rfl),(e.aw (l:=[X g,aD B en.enc 40,aD v [.int .i64 (l0:Int),.int .i64 (l1:Int)] 231,aD t (ke f A n c fr to b) 228]) (by rw[Zd];exact ae))⟩
 rintro⟨k,G⟩ ⟨⟨Zo,Zp⟩,H⟩;dsimp only at Zo Zp H ⊢
 refine aS ?_;refine dq (q:=1) underlying231 gr rfl rfl rfl a7 aa ?_;refine aS ?_;refine aj (λZq=>?_) (λZq=>?_);obtain⟨row,p⟩ : ∃row,rows[k]? = some row:=⟨rows[k]'aa,bE _⟩;obtain⟨bX,N,m,d,O,P,Q,C⟩:=r.at_ p;have ZQ:=C.len
 have Zr:=yH C
 simp only[maxLen] at Zr
 have Ze:k9 rows k=row.1:=by unfold k9;rw[p];rfl
 obtain⟨ZR,ZS⟩:=J5 (k:=k) (len:=row.1.length) Zc;have ZT:=J6 fr k
 have Zs:=J8 (rows:=rows) (fr:=fr) (to:=to) (en:=en) (l0:=l0) (i:=k+1) l1 aa
 rw[jd,ag aa,Ze,b0] at Zs
 refine aK ?_;refine ao rfl Ew rfl (λw' e=>J4 w' _ A n c rows (r.ext e.ext (λ_ h=>h)) fr to f b k row p) ?_;refine b5 ?_;refine b3 (ι:=Nat × ι) (λq=>[(8,.int .i64 (q.1 :Int)),(2,ptr t),(3,ptr v),(4,ptr B),(5,.int .i64 (k:Int)),(7,.int .i64 (gQ to k row.1.length))]) (λq=>af w (aB [X g]) [X q.2,aD B en.enc 40,aD v [.int .i64 (l0:Int),.int .i64 (l1:Int)] 231,aD t (ke f A n c fr to b) 228]) (λq=>((fN fr k).toNat≤q.1∧(q.1≤(gQ to k row.1.length).toNat∨q.1=(fN fr k).toNat))∧ok (s++jd rows fr to en l0 k++ie row.1 k en (fN fr k).toNat q.1) q.2) (λq=>m - q.1) ?_ ?_;exact λw' e=>⟨((fN fr k).toNat,G),⟨⟨cd _,.inr rfl⟩,by rw[xe _ _ _ _ _ (cd _),fJ];exact H⟩,Sub.cons (by rw[show (((fN fr k).toNat:Nat):Int)=fN fr k by omega];rfl) (ec rfl rfl rfl rfl rfl),e⟩
 rintro⟨x,D⟩ ⟨⟨Zt,Zf⟩,E⟩;dsimp only at Zt Zf E ⊢
 refine aK ?_;refine aj (λZu=>?_) (λZu=>?_);obtain⟨y,R⟩ : ∃y,row.1[x]? = some y:=⟨row.1[x]'aa,bE _⟩;obtain⟨ZU,Zv,Zw,Zx⟩:=C.at_ R;have Zy:=Zl row (c8 p) y (c8 R)
 have S:ie row.1 k en (fN fr k).toNat (x+1)=ie row.1 k en (fN fr k).toNat x++q1 k en x y:=by rw[ie,ag aa,R]
 have Zz:=J7 (L:=row.1) (row:=k) (en:=en) (a:=(fN fr k).toNat) (i:=x+1) (gQ to k row.1.length).toNat aa
 rw[S,b0] at Zz
 have Zg:y.half≠3∧fH ⟨(k:Int),(x:Int)⟩ en=true→q1 k en x y=oE y:=λh=>by unfold q1;rw[ax h]
 have Zh: ¬(y.half≠3∧fH ⟨(k:Int),(x:Int)⟩ en=true)→ie row.1 k en (fN fr k).toNat (x+1)=ie row.1 k en (fN fr k).toNat x:=λh=>by rw[S,q1,ag h,fJ]
 have ZA: ∀z:List UInt8,q1 k en x y=z→(s++jd rows fr to en l0 k++ie row.1 k en (fN fr k).toNat x).length+z.length≤M:=λz ZB=>by
  rw[←ZB];simp only[b0] at o ⊢
  omega
 refine aR ?_;intro ZV ZW ZX;refine aK ?_;refine bD (q:=k) dI rfl rfl rfl O rfl aa ?_;refine aq ?_;refine ba sa rfl rfl (λZC T=>T.ct (Q 0 _ rfl) (by simp only[block_add];exact P)) ?_;refine aq ?_;refine bD (q:=x) dv rfl rfl rfl Zv rfl aa ?_;refine cw (vs:=y.enc) jN rfl rfl rfl (λZC T j u U=>T.ct (Zx j u U) (by simp only[block_add];exact Zw)) ?_;refine aq ?_;intro ZY ZZ Z0;refine aJ ?_;refine aV 50 rfl (λI=>?_) (λI=>?_);have V:=aY I
 refine ay ?_;refine ao rfl uo rfl (λF J=>vA F ⟨(k:Int),(x:Int)⟩ en) ?_;refine ah ?_;refine aj (λaH=>?_) (λaH=>?_);simp only[bU] at aH
 refine bG [0,1,2,4] 2 [[(3,false,[]),(5,true,[])]] ?_;refine al ?_;refine ao rfl M7 rfl (λw' _=>PF w' y Zy) ?_;refine ah ?_;refine lI (l0:=[X D]) (first:=[]) (cap:=[ptr b]) ae rfl rfl Za rfl (λF J=>Zb F _ D (oE y) ⟨(k:Int),(x:Int)⟩ E (ZA _ (Zg ⟨V,b1 aH⟩)) (J.bp ae)) (λW K=>?_);refine aR ?_;exact bg (x+1,W) ⟨⟨by dsimp only;omega,.inl bm⟩,by dsimp only;rw[S,Zg ⟨V,b1 aH⟩,←e0];exact K⟩ bm bO (λ_ h=>h.aw ae);simp only[bU] at aH
 refine aK ?_;exact bg (x+1,D) ⟨⟨by dsimp only;omega,.inl bm⟩,(Zh (λh=>aH (aY h.2))).symm▸E⟩ bm bO (λ_ h=>h.aw ae);have V:=a8 I
 refine cE ?_;exact bg (x+1,D) ⟨⟨by dsimp only;omega,.inl bm⟩,(Zh (λh=>(a8 I) h.1)).symm▸E⟩ bm bO (λ_ h=>h.aw ae);have ZD:ie row.1 k en (fN fr k).toNat x=ie row.1 k en (fN fr k).toNat (gQ to k row.1.length).toNat:=by
  rcases Zf with h | h
  rw[show x=(gQ to k row.1.length).toNat by omega];rw[h,xe _ _ _ _ _ (cd _),xe _ _ _ _ _ aa]
 refine bo ?_;exact bg (k+1,D) ⟨⟨by dsimp only;omega,by dsimp only;omega⟩,by dsimp only;rw[jd,ag aa,Ze,←e0,←ZD];exact E⟩ bm bO (λ_ h=>h.aw ae);have ZE:k=l1:=by omega
 subst ZE;obtain⟨row,p⟩ : ∃row,rows[k - 1]? = some row:=⟨rows[k - 1]'aa,bE _⟩;obtain⟨bX,N,m,d,O,P,Q,C⟩:=r.at_ p;refine aC ?_;refine dq (q:=1) underlying231 gr rfl rfl rfl a7 aa ?_;refine b5 ?_;refine aj (λY=>?_) (λY=>?_);rw[ax Y] at o ⊢
 refine bG [0,1,2,3,4,5,6,7] 2 [[(8,false,[9]),(10,true,[])]] ?_;refine al ?_;refine aL rfl (λZF Zi=>(bD (q:=k - 1) dI rfl rfl rfl O aa aa aG)) ?_;refine aL rfl (λZF Zi=>(cw (vs:=[.slice N m d,.bool row.2]) gL rfl rfl rfl (λZ1 ZG j u U=>by subst ZG;exact Zi.ct (Q j u U) (by simp only[block_add];exact P)) aG)) ?_;refine ar ?_;refine ao rfl M8 rfl (λw' e=>Xb w' _ N m d row.1 row.2 (C.ext e.ext (λ_ h=>h))) ?_;refine aS ?_;refine lI (l0:=[X G]) (first:=[]) (cap:=[ptr b]) ae rfl rfl Za rfl (λF J=>Zb F _ G [10] ⟨(k:Int) - 1,(qn row.1 m:Int)⟩ H (by simp only[b0] at o ⊢;omega) (J.bp ae)) (λW K=>?_);refine aS ?_;intro ZH Z;exact aN W (by rw[e0] at K;exact K) Z;rw[ag Y,fJ] at o ⊢
 refine ar ?_;intro ZH Z;exact aN G H Z
structure vR where
 A:Option Addr
 c:Nat
 l:List (Int × Int)
abbrev vR.val (r:vR):Value:= .slice r.A r.l.length r.c
abbrev vR.au (r:vR):Chunk:=Mq.au 231 mB r.A r.c r.l
theorem Ka (w:World) (F:Nat→Prop) (A:Option Addr) (n c:Nat) (rows:List bQ) (g:ep w F A n c rows) (h:n≤100000):
 Calls prog 123 [.slice A n c].toArray w (aP (λz:vR=>z.val) [] (λz=>[z.au]) (λz=>z.l=ks rows n) w):=by
 refine (Xf w F A n c rows g h).mono ?_;rintro e w' ⟨v,rfl,i,a,j⟩;obtain⟨m,d,rfl⟩:=wi a;refine aP.bP ⟨m,d,ks rows n⟩ rfl rfl ⟨i,?_,λc b=>?_,λk f o=>?_⟩;simp only[aB,n2,rK,fJ];exact uk _ _ _ _ _;rw[eL] at b;subst b;exact a
 simp only[aB,n2,rK,fJ] at f
 have:=j k (iV.1 f)
 omega
theorem ep.apart {b w:World} {ι:Type} {X:ι→Chunk} {d y:ι} {cs:List Chunk} {A:Option Addr} {n c:Nat} {rows:List bQ} (f:ep b (λk=>k∉aB [X d]) A n c rows) (h:af b (aB [X d]) cs w) (g:Has cs (X y)):ep w (λk=>k∉aB [X y]) A n c rows:=by
 refine (f.hA.ext h.ext (λk a=>a.1)).dC (λk a e=>a.1 (h.ee k ?_ a.2));rw[show aB [X y]=(X y).ce by simp[aB]] at e
 exact e4.2 ⟨X y,g.mem,e⟩
set_option maxHeartbeats 1000000 in
theorem Kb (w:World) {ι:Type} (X:ι→Chunk) (ok:List UInt8→ι→Prop) (m:ι) (A:Option Addr) (n c:Nat) (rows:List bQ) (K:ep w (λk=>k∉aB [X m]) A n c rows) (fr to:bl) (f b M:Nat) (V:ad prog f) (W:yI f b M X ok) (Zg:n≤100000) (Zw:0≤fr.row∧fr.row≤4398046511104) (Y:0≤to.dm) (Zx:0≤to.row∧to.row≤4398046511104)
 (Z: ∀row∈rows,∀x∈row.1,x.more.length≤1000000) (N: (jx rows fr to).length≤M) (Zh:bb w [X m]) (Za:ok [] m):
 Calls prog 77 [.slice A n c,d9 fr,d9 to,.func (.func f) #[] #[ptr b]].toArray w (aP (λ_:ι=> .tuple #[]) [X m] (λj=>[X j]) (λj=>ok (jx rows fr to) j) w):=by
 have Zi:=K.len
 have Zj:uH fr=fr:=by unfold uH;rw[ag aa]
 unfold jx at N ⊢
 rw[Zj,Zi] at N ⊢
 refine bI func77 ntmps77 Zh ?_;refine ah ?_;intro C Zy Zz;refine aq ?_;intro D ZA ZB;refine aR ?_;refine aj (λZb=>?_) (λZb=>?_);exact absurd Zb aa;refine aC ?_;refine ao rfl uo rfl (λa d=>vA a fr to) ?_;refine ah ?_;refine b2 rfl (λF=>?_) (λF=>?_);refine ah ?_;intro Zk Q;rw[ag (λe=>by rw[e] at F;exact absurd F a1)];exact aN m Za Q;have Zl:fH fr to=true:=by rw[Bool.not_eq_false'] at F;exact F
 rw[ax Zl] at N ⊢
 refine aR ?_;intro G ZC ZD;refine al ?_;refine aZ (l0:=[]) aA.nil rfl El rfl (λa d=>Ka a _ A n c rows (K.ext d.ext (λ_ h=>h)) Zg) (λz Zm=>?_);refine ay ?_;have Zc:=Aq rows n
 have Zn:=Ap rows n
 rw[←Zm] at N Zc Zn ⊢
 refine b3 (ι:=Nat × ι) (λq=>[(27,.int .i64 (q.1 :Int)),(0,.slice A n c),(5,ptr C),(6,ptr D),(8,ptr G),(25,z.val),(26,.int .i64 (z.l.length:Int))]) (λq=>af w (aB [X m]) [X q.2,z.au,aD G (ke f A n c fr to b) 228,aD D to.enc 40,aD C fr.enc 40]) (λq=>q.1≤z.l.length∧ok ((z.l.take q.1).flatMap (ig rows fr to)) q.2) (λq=>z.l.length - q.1) ?_ ?_;exact λw' Zo=>⟨(0,m),⟨bN _,Za⟩,(hE rfl rfl rfl rfl rfl rfl rfl),Zo.aw (l:=[X m,z.au,aD G (ke f A n c fr to b) 228,aD D to.enc 40,aD C fr.enc 40]) ae⟩
 rintro⟨i,y⟩ ⟨hi,o⟩;dsimp only at hi o ⊢
 refine al ?_;refine aj (λZp=>?_) (λZp=>?_);obtain⟨p,ai⟩ : ∃p,z.l[i]? = some p:=⟨z.l[i]'aa,bE _⟩;obtain⟨r,g,rfl,ZE,ZF⟩:=FZ z.l 0 Zc p (c8 ai);have O: (z.l.take (i+1)).flatMap (ig rows fr to)=(z.l.take i).flatMap (ig rows fr to)++ig rows fr to ((r:Int),(g:Int)):=by rw[kr ai,tV];simp
 have Zd: ((z.l.take i).flatMap (ig rows fr to)).length+(ig rows fr to ((r:Int),(g:Int))).length≤M:=by
  have:=Xg (ig rows fr to) (L:=z.l) (i:=i+1)
  rw[O,b0] at this
  omega
 obtain⟨l0,P⟩ : ∃l0:Nat,max (r:Int) fr.row=(l0:Int):=⟨(max (r:Int) fr.row).toNat,aa⟩;obtain⟨t,Zq⟩ : ∃t:Nat,to.row+1=(t:Int):=⟨(to.row+1).toNat,aa⟩;have Ze: ¬((l0:Int)<g∧(l0:Int)≤to.row)→ok ((z.l.take (i+1)).flatMap (ig rows fr to)) y:=λh=>by
  rw[O,Xh (λe=>h (by rw[P] at e;exact e)),fJ];exact o
 have Zr: ∀(B:Nat) (a:World),af w (aB [X m]) [aD B [.int .i64 (l0:Int),.int .i64 (t:Int)] 231,X y,z.au,aD G (ke f A n c fr to b) 228,aD D to.enc 40,aD C fr.enc 40] a→(l0:Int)<g∧(l0:Int)≤to.row∧to.row<n∧to.row+1<g→Calls prog 124 [.agg (ke f A n c fr to b).toArray,.agg [.int .i64 (l0:Int),.int .i64 (t:Int)].toArray].toArray a (aP (λ_:ι=> .tuple #[]) [X y] (λj=>[X j]) (λj=>ok ((z.l.take (i+1)).flatMap (ig rows fr to)) j) a):=λB a d h=>by
  have H:=J9 (rows:=rows) (fr:=fr) (to:=to) (s:=(r:Int)) (e:=(g:Int)) (l0:=l0) (l1:=t) P h.1 h.2.1 (by rw[ax ⟨aa,aa⟩];omega)
  rw[O,H];exact J_ a X ok y A n c rows (K.apart d bF) fr to f b M V W _ l0 t aa aa aa Y Z (by rw[←H];exact Zd) (d.bp ae) o
 have Zf: ∀(B:Nat) (a:World),af w (aB [X m]) [aD B [.int .i64 (l0:Int),.int .i64 (g:Int)] 231,X y,z.au,aD G (ke f A n c fr to b) 228,aD D to.enc 40,aD C fr.enc 40] a→(l0:Int)<g∧(l0:Int)≤to.row∧ ¬(to.row<n∧to.row+1<g)→Calls prog 124 [.agg (ke f A n c fr to b).toArray,.agg [.int .i64 (l0:Int),.int .i64 (g:Int)].toArray].toArray a (aP (λ_:ι=> .tuple #[]) [X y] (λj=>[X j]) (λj=>ok ((z.l.take (i+1)).flatMap (ig rows fr to)) j) a):=λB a d h=>by
  have H:=J9 (rows:=rows) (fr:=fr) (to:=to) (s:=(r:Int)) (e:=(g:Int)) (l0:=l0) (l1:=g) P h.1 h.2.1 (by rw[ag (λe=>h.2.2 ⟨aa,aa⟩)])
  rw[O,H];exact J_ a X ok y A n c rows (K.apart d bF) fr to f b M V W _ l0 g aa aa aa Y Z (by rw[←H];exact Zd) (d.bp ae) o
 refine al ?_;refine iL (E:=mB) bF sb rfl rfl rfl a7 aa (λZG Zs=>?_);refine cw zp rfl rfl rfl (λZH R j u Zt=>R.gx (E:=mB) bF Zs bz j u Zt) ?_;refine aq ?_;intro B ZI ZJ;refine ay ?_;refine dq (q:=0) underlying231 gr rfl rfl rfl a7 aa ?_;refine aS ?_;refine dq (q:=0) underlying231 gr rfl rfl rfl a7 aa ?_;refine aS ?_;rw[P];refine aq ?_;refine dq (q:=0) underlying231 gr rfl rfl rfl a7 aa ?_;refine aq ?_;refine dq (q:=1) underlying231 gr rfl rfl rfl a7 aa ?_;refine ah ?_;refine aV 42 rfl (λS=>?_) (λS=>?_);have Zu:=aY S
 refine aq ?_;refine dq (q:=0) underlying231 gr rfl rfl rfl a7 aa ?_;refine bo ?_;refine aj (λaH=>?_) (λaH=>?_);refine aJ ?_;refine aV 54 rfl (λT=>?_) (λT=>?_);have Zv:=aY T
 refine aq ?_;refine dq (q:=1) underlying231 gr rfl rfl rfl a7 aa ?_;refine bH ?_;refine aj (λU=>?_) (λU=>?_);simp only[bU] at U
 refine aS ?_;refine dq (q:=1) underlying231 gr rfl rfl rfl a7 aa ?_;rw[Zq];refine al ?_;refine aZ (ι:=ι) (v:=λ_=> .tuple #[]) (l':=λj=>[X j]) (ok:=λj=>ok ((z.l.take (i+1)).flatMap (ig rows fr to)) j) (l0:=[X y]) ae rfl zD rfl (λa d=>by (have R:to.row<n∧to.row+1<g:=aa;exact Zr _ a d ⟨aa,aa,R⟩)) (λI J=>?_);refine aC ?_;exact bg (i+1,I) ⟨by dsimp only;omega,J⟩ bm bO (λ_ h=>h.aw ae);simp only[bU] at U
 refine ay ?_;refine aZ (ι:=ι) (v:=λ_=> .tuple #[]) (l':=λj=>[X j]) (ok:=λj=>ok ((z.l.take (i+1)).flatMap (ig rows fr to)) j) (l0:=[X y]) ae rfl zD rfl (λa d=>by exact Zf _ a d ⟨aa,aa,aa⟩) (λI J=>?_);refine aC ?_;exact bg (i+1,I) ⟨by dsimp only;omega,J⟩ bm bO (λ_ h=>h.aw ae);have Zv:=a8 T
 refine cE ?_;refine aZ (ι:=ι) (v:=λ_=> .tuple #[]) (l':=λj=>[X j]) (ok:=λj=>ok ((z.l.take (i+1)).flatMap (ig rows fr to)) j) (l0:=[X y]) ae rfl zD rfl (λa d=>by exact Zf _ a d ⟨aa,aa,aa⟩) (λI J=>?_);refine aC ?_;exact bg (i+1,I) ⟨by dsimp only;omega,J⟩ bm bO (λ_ h=>h.aw ae);refine aC ?_;exact bg (i+1,y) ⟨by dsimp only;omega,Ze aa⟩ bm bO (λ_ h=>h.aw ae);have Zu:=a8 S
 refine dB ?_;exact bg (i+1,y) ⟨by dsimp only;omega,Ze aa⟩ bm bO (λ_ h=>h.aw ae);refine ay ?_;intro Zk Q;exact aN y (by rw[eu aa] at o;exact o) Q
def tq:Shelf.Ren:=⟨λ| 166=>79 | 169=>80 | 240=>125 | 276=>187 | n=>n,λ| 0=>0 | 3=>3 | 4=>4 | 5=>5 | 9=>9 | 20=>20 | 37=>62 | 70=>92 | 72=>94 | 75=>188 | 80=>192 | 127=>233 | 164=>285 | n=>n,λn=>n⟩
theorem yi:Lays.n169 prog tq where
 mixed:=by kernel_rfl
 f169:=func80.trans (aX some ab)
 t0:=underlying0
 a0:=isAgg0
 z0:=sizeOf0
 v0:=zeroValue0
 t3:=underlying3
 a3:=isAgg3
 z3:=sizeOf3
 v3:=zeroValue3
 t9:=underlying9
 a9:=isAgg9
 z9:=sizeOf9
 v9:=zeroValue9
 t37:=underlying62
 a37:=isAgg62
 z37:=sizeOf62
 v37:=zeroValue62
 t70:=underlying92
 a70:=isAgg92
 z70:=sizeOf92
 v70:=zeroValue92
 t72:=underlying94
 a72:=isAgg94
 z72:=sizeOf94
 v72:=zeroValue94
 t127:=underlying233
 a127:=isAgg233
 z127:=sizeOf233
 v127:=zeroValue233
theorem vo:Builder.Extra prog tq where
 sizeBuilder:=by kernel_rfl
 liesBuilder:=by kernel_rfl
 t5:=underlying5
 a5:=isAgg5
 z5:=sizeOf5
 v5:=zeroValue5
 infoByte:=by kernel_rfl
 cellsByte:=by kernel_rfl
 sizeByte:=by kernel_rfl
 neB5:=aY ab
def Kc (a:World) (b:Nat) (s:List UInt8) (w':World):Prop:=Ext [] a w'∧Lib.IsBuilderF 94 5 a.heap.size b (Lib.byteCells s) w'
theorem Ext.vp {w w' b:World} (h:Ext [] w w') (a:Below w.heap.size w' b):Ext [] w b:=
 ⟨a.os.trans h.os,a.tape.trans h.tape,a.output.trans h.output,fp h.size a.size,λk c d=>(a.block k c).trans (h.block k c d)⟩
theorem Xi (a:World) (b:Nat) (s:List UInt8) (w':World) (h:Kc a b s w'):
 Calls prog 80 [.pointer (some ⟨b,0,none⟩)].toArray w' (λe c=>e= .returned (.string (bs s))∧Ext [] a c):=by
 refine Calls.mono (Any.Builder_String_any_k yi vo a.heap.size b s w' h.2 h.1.size) ?_;rintro e c ⟨rfl,_,d,_⟩;exact⟨rfl,Ext.vp h.1 d⟩
theorem B8:ad prog 80:=ad.of func80 ab ab
abbrev iq (bL:Option Addr) (v:Value):List Value:=[.pointer bL,v]
abbrev vS (g:Nat) (bL:Option Addr) (z:ij):Chunk:=aT [aD g (iq bL z.val) 94,z.au]
theorem Xj (w:World) (g:Nat) (bL:Option Addr) (v:Value) (c:bb w [aD g (iq bL v) 94]) (d:bL=none∨bL=some ⟨g,0,none⟩):Calls prog 125 [ptr g].toArray w
 (aP (λ_:Unit=> .tuple #[]) [aD g (iq bL v) 94] (λ_=>[aD g (iq (some ⟨g,0,none⟩) v) 94]) (λ_=>True) w):=by
 have hi: ∃j,prog.info? 94=some j∧j.size≠0:=by
  have h: (prog.info? 94).map (λj=>Nat.beq j.size 0)=some false:=by kernel_rfl
  cases a:prog.info? 94 with
  | none=>rw[a] at h;cases h
  | some j=>
   rw[a] at h
   refine⟨j,rfl,λf=>?_⟩;simp[f] at h
 obtain⟨j,a,i⟩:=hi;have k:liesAt prog prog.depth 94 (2/prog.cellsOf 94) 0 94 1=true:=by kernel_rfl
 refine calls (n:=20) func125 rfl ntmps125 rfl ?_;refine cG ?_ (Sub.refl _) c.start;rcases d with rfl | rfl
 refine bH ?_;refine HS underlying92 underlying285 a i (xs:=_) aQ (show 0<2 by decide) rfl rfl ?_;refine wX rfl rfl (λp _=>by rw[run_callFunc_extern func187 ab ab ab (e:=Extern.AbiNoEscape.same) ab];rw[Lib.run_noEscape];rfl) ?_;refine HT (m:=2) (o:=0) underlying285 underlying92 a (xs:=_) aQ rfl k rfl rfl ?_;refine ay ?_;intro l b;exact aN () aU b;refine ef ?_;refine HU underlying92 a rfl rfl rfl ?_;refine ay ?_;intro l b;exact aN () aU b
theorem Xk (w:World) (g:Nat) (bL:Option Addr) (z:ij) (a:bb w [aD g (iq bL z.val) 94,z.au]) (b:bL=none∨bL=some ⟨g,0,none⟩) (s:List UInt8) (c:z.l.length+s.length≤140737488355328):Calls prog 79 [ptr g,.string (bs s)].toArray w
 (aP (λ_:ij=> .tuple #[.int .i64 (s.length:Int),.nilIface]) [aD g (iq bL z.val) 94,z.au] (λy=>[aD g (iq (some ⟨g,0,none⟩) y.val) 94,y.au]) (λy=>y.l=z.l++s) w):=by
 refine calls (n:=19) func79 rfl ntmps79 rfl ?_;refine cG (H':=af w (aB [aD g (iq bL z.val) 94,z.au]) [aD g (iq bL z.val) 94,z.au]) ?_ (Sub.refl _) a.start;refine aJ ?_;refine cI (λd e=>Xj d g bL z.val e b) (λ_ _=>?_);refine aR ?_;refine HV fi ab underlying9 rfl rfl rfl (λ_ _=>eo) c (λdE c9=>?_);refine cE ?_;intro h f;exact aN ⟨dE,c9,z.l++s⟩ rfl f
structure yJ where
 bL:Option Addr
 z:ij
theorem Xl (g M:Nat) (m:M≤140737488355328):yI 78 g M (λi:yJ=>vS g i.bL i.z) (λs i=>(i.bL=none∨i.bL=some ⟨g,0,none⟩)∧i.z.l=s):=by
 intro c s ⟨bL,z⟩ t p a o b;dsimp only at a b ⊢
 have b:=b.jq
 refine Calls.mono ?_ (λe w' h=>aP.star (l:=[aD g (iq bL z.val) 94,z.au]) (v:=λ_:yJ=>Value.tuple #[]) (l':=λj=>[aD g (iq j.bL j.z.val) 94,j.z.au]) (ok:=λj=>(j.bL=none∨j.bL=some ⟨g,0,none⟩)∧j.z.l=s++t) h);refine calls (n:=7) func78 rfl ntmps78 rfl ?_;refine cG (H':=af c (aB [aD g (iq bL z.val) 94,z.au]) [aD g (iq bL z.val) 94,z.au]) ?_ (Sub.refl _) b.start;refine ah ?_;intro q r u;refine aS ?_;refine aZ (l0:=[aD g (iq bL z.val) 94,z.au]) ae rfl Ed rfl (λc d=>Xk c g bL z (d.bp ae) a.1 t (by rw[a.2];omega)) (λy f=>?_);refine ar ?_;intro w k;exact aN ⟨some ⟨g,0,none⟩,y⟩ ⟨.inr rfl,by rw[f,a.2]⟩ k
theorem Xm {w w':World} {g:Nat} {bL:Option Addr} {z:ij} (h:af w [] [aD g (iq bL z.val) 94,z.au] w') (p:bL=none∨bL=some ⟨g,0,none⟩):Kc w g z.l w':=by
 have d:w.heap.size≤g:=by
  rcases e1 g w.heap.size with a | b
  exact absurd (h.ee g (by simp[aB,aD]) a) av;exact b
 have e:=h.nodup
 have f:w'.ownsRow 0 5 1 z.val z.l.length (cy.all z.l):=h.has (c:=z.au) (Has.tail Has.head)
 have q: ∀k,z.val.ownBlock=some k→w.heap.size≤k:=λk r=>by
  rcases e1 k w.heap.size with a | b
  exact absurd (h.ee k (e4.2 ⟨z.au,by simp,iV.2 r⟩) a) av;exact b
 have i:z.val.ownBlock≠some g:=λs=>by
  rw[ff,fK] at e
  exact e.2.2 g (by simp[aD]) g (e4.2 ⟨z.au,by simp,iV.2 s⟩) rfl
 have j:w'.heap[g]? = some (.cells (iq bL z.val).toArray 94 (0,0)):=h.has (c:=aD g (iq bL z.val) 94) Has.head
 have t:cy.all z.l=Lib.byteCells z.l:=by
  rw[←HQ,Lib.strCells_eq]
 have m:w'.ownsRowF w.heap.size 5 1 z.val z.l.length (Lib.byteCells z.l):=by
  rw[←t];refine World.ownsRowF_of ⟨f.1,?_⟩;rcases f.2 with u | ⟨k,cap,am,n,_,rest⟩
  exact .inl u;exact .inr ⟨k,cap,am,n,q k (by rw[n];rfl),rest⟩
 have o: (Lib.byteCells z.l).length=z.l.length:=Lib.byteCells_length _
 refine⟨h.ext,?_⟩;rcases p with rfl | rfl
 exact .inl ⟨d,z.val,j,by rw[o];exact m,i⟩;exact .inr ⟨d,z.val,j,by rw[o];exact m,i⟩
theorem ep.off {b w:World} {F:Nat→Prop} {cs:List Chunk} {c0:Chunk} {A:Option Addr} {n c:Nat} {rows:List bQ} (d:ep b F A n c rows) (h:af b [] cs w) (e:Has cs c0):ep w (λk=>k∉aB [c0]) A n c rows:=by
 refine (d.hA.ext h.ext (λk _=>by simp)).dC (λk f a=>?_);rw[show aB [c0]=c0.ce by simp[aB]] at a
 exact absurd (h.ee k (e4.2 ⟨c0,e.mem,a⟩) f.2) av
theorem Kd (w:World) (F:Nat→Prop) (A:Option Addr) (n c:Nat) (rows:List bQ) (d:ep w F A n c rows) (fr to:bl) (f:n≤100000) (g:0≤fr.row∧fr.row≤4398046511104) (j:0≤to.dm) (k:0≤to.row∧to.row≤4398046511104)
 (m: ∀row∈rows,∀x∈row.1,x.more.length≤1000000) (o: (jx rows fr to).length≤140737488355328):
 Calls prog 42 [.slice A n c,d9 fr,d9 to].toArray w (Pure (.string (bs (jx rows fr to))) w):=by
 refine aW func42 ntmps42 ?_;refine ah ?_;intro t u y;refine aq ?_;intro B C D;refine al ?_;intro a E G;refine aK ?_;refine ha (H':=af w [] [vS a none ⟨none,0,[]⟩]) ?_ (Sub.refl _) (λx p=>((p.eO 5 cy).close (l:=[aD a (iq none (ij.val ⟨none,0,[]⟩)) 94,ij.au ⟨none,0,[]⟩]) ae).aw ae);refine aZ (ι:=yJ) (v:=λ_=> .tuple #[]) (l':=λi=>[vS a i.bL i.z]) (ok:=λi=>(i.bL=none∨i.bL=some ⟨a,0,none⟩)∧i.z.l=jx rows fr to) (l0:=[vS a none ⟨none,0,[]⟩]) ae rfl Ec rfl (λq b=>Kb q (λi:yJ=>vS a i.bL i.z) _ ⟨none,⟨none,0,[]⟩⟩ A n c rows (d.off b Has.head) fr to _ a _ Ms (Xl a 140737488355328 (cd _)) f g j k m o (b.bp ae) ⟨.inl rfl,rfl⟩) (λi hi=>?_);refine aS ?_;refine sq (v:= .string (bs (jx rows fr to))) (H':=af w [] []) rfl B8 rfl (λw' r=>(by have h:=Xi w a _ w' (Xm ((r.open (l:=[aD a (iq i.bL i.z.val) 94,i.z.au]) bv.head).aw ae) hi.1);rw[hi.2] at h;exact h.mono (λe H h=>⟨h.1,⟨h.2,by simp[aB],by simp,by simp[aB]⟩⟩))) ?_;refine ay ?_;intro I s;exact⟨rfl,s.ext⟩
abbrev vT (g:Nat) (z:eb):Chunk:=aT [aD g [z.val] 69,z.au]
theorem Xn (g M:Nat) (A:M≤1000000000):yI 92 g M (vT g) (λs i=>i.l.length=s.length):=by
 intro b s z t p c B a;dsimp only at c a ⊢
 have a:=a.jq
 refine Calls.mono ?_ (λe w' h=>aP.star (l:=[aD g [z.val] 69,z.au]) (v:=λ_:eb=>Value.tuple #[]) (l':=λj=>[aD g [j.val] 69,j.au]) (ok:=λj=>j.l.length=(s++t).length) h);obtain⟨d,f⟩:=p;refine calls (n:=14) func92 rfl ntmps92 rfl ?_;refine cG (H':=af b (aB [aD g [z.val] 69,z.au]) [aD g [z.val] 69,z.au]) ?_ (Sub.refl _) a.start;refine ah ?_;intro k C D;refine aR ?_;refine b3 (ι:=Nat × eb) (λq=>[(2,ptr g),(4,ptr k),(6,.int .i64 (t.length:Int)),(7,.int .i64 (q.1 :Int))]) (λq=>af b (aB [aD g [z.val] 69,z.au]) [aD k [.int .i64 d,.int .i64 f] 40,aD g [q.2.val] 69,q.2.au]) (λq=>q.1≤t.length∧q.2.l.length=s.length+q.1) (λq=>t.length - q.1) ?_ ?_;exact λw' m=>⟨(0,z),⟨bN _,c⟩,(cu rfl rfl rfl rfl),m⟩
 rintro⟨i,y⟩ ⟨hi,o⟩;dsimp only at hi o ⊢
 refine al ?_;refine aj (λr=>?_) (λr=>?_);refine aC ?_;refine dx (E:=cq) ⟨_,_⟩ dQ rfl rfl rfl rfl rfl (λF G H=>?_);refine er (E:=cq) dQ rfl rfl rfl bi (λ_ _=>k6) b4 b4 (λu w=>?_);refine aK ?_;exact bg (i+1,⟨u,w,y.l++[⟨d,f⟩]⟩) ⟨by dsimp only;omega,by dsimp only;rw[b0,iS];omega⟩ bm bO (λ_ h=>h.aw ae);refine ay ?_;intro I x;exact aN y (by rw[b0];omega) x
theorem Xo (w:World) (F:Nat→Prop) (A:Option Addr) (n c:Nat) (rows:List bQ) (d:ep w F A n c rows) (fr to:bl) (e:n≤100000) (f:0≤fr.row∧fr.row≤4398046511104) (g:0≤to.dm) (h:0≤to.row∧to.row≤4398046511104)
 (j: ∀row∈rows,∀x∈row.1,x.more.length≤1000000) (k: (jx rows fr to).length≤1000000000):
 Calls prog 52 [.slice A n c,d9 fr,d9 to].toArray w (aP (λz:eb=>z.val) [] (λz=>[z.au]) (λz=>z.l.length=(jx rows fr to).length) w):=by
 refine aW func52 ntmps52 ?_;refine ah ?_;intro r t u;refine aq ?_;intro y B C;refine ay ?_;refine r3 LE rfl (λa D E=>?_);refine aK ?_;refine ha (H':=af w [] [vT a ⟨none,0,[]⟩]) ?_ (Sub.refl _) (λx m=>((m.eO 40 cq).close (l:=[aD a [eb.val ⟨none,0,[]⟩] 69,eb.au ⟨none,0,[]⟩]) ae).aw ae);refine aZ (ι:=eb) (v:=λ_=> .tuple #[]) (l':=λi=>[vT a i]) (ok:=λi=>i.l.length=(jx rows fr to).length) (l0:=[vT a ⟨none,0,[]⟩]) ae rfl Ec rfl (λo b=>Kb o (vT a) (λs i=>i.l.length=s.length) ⟨none,0,[]⟩ A n c rows (d.off b Has.head) fr to _ a _ Mx (Xn a 1000000000 (cd _)) e f g h j k (b.bp ae) rfl) (λz p=>?_);refine ah ?_;refine sr (lc:=[aD a [z.val] 69,z.au]) bi ?_;refine aC ?_;intro G q;exact aN z p q
theorem Xp:ad prog 126:=ad.of func126 ab ab
def tK (s p:List UInt8):Bool:=decide (s.drop (s.length - p.length)=p)
theorem Xq {s p:List UInt8} (h:tK s p=true):p.length≤s.length:=by
 have a:=aX List.length (aY h)
 rw[fz] at a
 omega
theorem Xr (w:World) (s p:List UInt8) (f:s.length≤9223372036854775807) (ai:p.length≤9223372036854775807):Calls prog 126 [.string (bs s),.string (bs p)].toArray w (λe w'=>e= .returned (.bool (tK s p))∧Ext [] w w'):=by
 refine aW func126 ntmps126 ?_;refine bH ?_;refine aV 10 rfl (λa=>?_) (λa=>?_);have c:=aY a
 refine bo ?_;refine gI (r:=((s.length - p.length:Nat):Int)) rfl rfl rfl (by rw[wrap64 aa aa];omega) ?_;refine aq ?_;refine pu (s.length - p.length) underlying9 rfl rfl rfl a7 aa ?_;refine aR ?_;intro d b;exact⟨rfl,b.ext⟩;have c:=a8 a
 refine cE ?_;intro d b;refine⟨?_,b.ext⟩;rw[show tK s p=false from Bool.eq_false_iff.2 (λe=>c (by have:=Xq e;omega))]
def nY (s:List UInt8):List UInt8:=(s.reverse.dropWhile (· == 10)).reverse
theorem Xs {s:List UInt8} (h:tK s [10]=true):nY (s.take (s.length - 1))=nY s:=by
 have a:=aY h
 have e:s=s.take (s.length - 1)++[10]:=by
  conv=>lhs;rw[←iT (s.length - 1) s]
  exact aX _ a
 generalize s.take (s.length - 1)=t at e
 subst e;unfold nY;rw[ub];simp
theorem Xt {s:List UInt8} (h:tK s [10]=false):nY s=s:=by
 rcases List.eq_nil_or_concat s with rfl | ⟨t,x,rfl⟩
 rfl
 unfold nY;rw[List.concat_eq_append,ub];rw[show [x].reverse++t.reverse=x::t.reverse from rfl,List.dropWhile_cons_of_neg,List.reverse_cons,List.reverse_reverse];intro a;have b:x=10:=by simpa using a
 subst b;have:=a8 h
 exact this av
theorem Xu (w:World) (s p:List UInt8) (a:s.length≤9223372036854775807) (ai:p.length≤9223372036854775807):Calls prog 81 [.string (bs s),.string (bs p)].toArray w (λe w'=>e= .returned (.bool (tK s p))∧Ext [] w w'):=by
 refine aW func81 ntmps81 ?_;refine aJ ?_;refine ao rfl Xp rfl (λw' _=>Xr w' s p a ai) ?_;refine ay ?_;intro c b;exact⟨rfl,b.ext⟩
theorem Xv (w:World) (s:List UInt8) (f:s.length≤9223372036854775807):Calls prog 43 [.string (bs s)].toArray w (λe w'=>e= .returned (.string (bs (nY s)))∧Ext [] w w'):=by
 refine aW func43 ntmps43 ?_;refine aC ?_;refine b3 (ι:=List UInt8) (λt=>[(0,.string (bs t))]) (λ_=>af w [] []) (λt=>t.length≤s.length∧nY t=nY s) (λt=>t.length) ?_ ?_;exact λw' c=>⟨s,⟨cd _,rfl⟩,(ug rfl),c⟩
 rintro t ⟨g,b⟩;refine aS ?_;refine ao rfl Mt rfl (λw' _=>Xu w' t [10] aa a1) ?_;refine ar ?_;refine aj (λa=>?_) (λa=>?_);have i:0<t.length:=by
  cases t with
  | nil=>exact absurd a a1
  | cons _ _=>exact Nat.succ_pos _
 refine aC ?_;refine gI (r:=((t.length - 1 :Nat):Int)) rfl rfl rfl (by rw[wrap64 aa aa];omega) ?_;refine pv (t.length - 1) underlying9 rfl rfl rfl a7 aa ?_;refine ah ?_;exact bg (t.take (t.length - 1)) ⟨by rw[dn];omega,by rw[Xs (b1 a),b]⟩ (by rw[dn];omega) bO (λ_ h=>h);rw[←b,Xt (cm a)];refine bH ?_;intro j d;exact⟨rfl,d.ext⟩
end Go.Proofs.YtkeokgcdnfjaaaaGreatDoor.Mq
namespace Go.Proofs.YtkeokgcdnfjaaaaGreatDoor.Mq
open Go Go.RowKit Go.Proofs Go.MapKept
section
def pf (es:Array MapEntry):Prop:= ∀x∈es.toList,∃k v:Int,x.key= .int .u64 k∧k≠0∧x.val= .int .i64 v
theorem pf.key {es:Array MapEntry} (h:pf es): ∀x∈es.toList,IsKey (.int .u64) x.key:=λx a=>by
 obtain⟨k,v,b,_⟩:=h x a;rw[b];exact rfl
def kQ (g:Nat) (es:Array MapEntry) (ck:Nat):Chunk where
 ce:=[g]
 pred w:=w.heap[g]? = some (.map es ck)
 low w h k a:=by
  simp only[eL] at a
  subst a
  exact (lz.1 h).1
 loc w w' h ai:=by rw[h g av];exact ai
def foldI (es:Array MapEntry) (k:Int):Int:=match Instr.findNow (.int .u64) (.int .u64 k) es.toList 0 with | some (some (_,.int .i64 v))=>v | _=>0
theorem Xw {es:Array MapEntry} (h:pf es):foldI es 0=0:=by
 unfold foldI;rcases findNow_spec (d:= .int .u64) (k:= .int .u64 0) rfl es.toList 0 h.key with ⟨b,_⟩ | ⟨j,e,b,c,a⟩
 rw[b];obtain⟨k,v,f,g,_⟩:=h e (c8 c);rw[f] at a
 injection a with _ a
 exact absurd a g
section
variable {P:Program} {n:Nat} {ops:Array Oper} {Q:cl} {rest:List Oper} {l:Fr} {d:Nat} {ty:TypeId} {pos:String} {a6:Array Edge}
variable {b:World} {S:List Nat} {cs:List Chunk}
theorem Xx {H:World→Prop} {x y:Operand} {mt f m:TypeId} {g ck:Nat} {es:Array MapEntry} {k:Int} (o:P.underlying mt=some (.map f m)) (b:P.underlying f=some (.int .u64)) (u:cJ P m (.int .i64 0)) (p:pf es) (ak:Nat.blt d n=true)
 (q:a_ l x=some (.map (some g))) (r:a_ l y=some (.int .u64 k)) (s: ∀w,H w→w.heap[g]? = some (.map es ck))
 (h:az P n ops Q rest ((d,.int .i64 (foldI es k))::l) H):az P n ops Q (⟨some d,.lookup mt x y false,ty,pos,a6,none⟩::rest) l H:=by
 obtain⟨i,z,A,_⟩:=u.inf;refine r2 _ ak (λD w c t=>?_) h;rcases findNow_spec (d:= .int .u64) (k:= .int .u64 k) rfl es.toList 0 p.key with ⟨a,_⟩ | ⟨j,e,a,B,E⟩
 simp[execOp,c x _ q,c y _ r,Instr.lookup,run_underlying o,MapKept.run_getObj_map (s w t),MapKept.run_checkKey (k:= .int .u64 k) b rfl,MapKept.run_findKey b a,r1 z A,Result.andThen,foldI,a]
 obtain⟨F,v,G,I,C⟩:=p e (c8 B);simp[execOp,c x _ q,c y _ r,Instr.lookup,run_underlying o,MapKept.run_getObj_map (s w t),MapKept.run_checkKey (k:= .int .u64 k) b rfl,MapKept.run_findKey b a,Result.andThen,foldI,a,C]
theorem af.yK {w:World} (h:af b S cs w) {g ck a:Nat} {es c:Array MapEntry} {cs':List Chunk} (d:bn cs (kQ g es ck) (kQ g c a) cs'):af b S cs' { w with heap:=w.heap.setIfInBounds g (.map c a) }:=by
 have f:w.heap[g]? = some (.map es ck):=h.has d.has
 have e:=heap_set (o':= .map c a) f
 exact h.hV d ⟨rfl,rfl,rfl,by simp,λk _ i=>e.2 k (by simpa [kQ] using i)⟩ e.1 (by simp[kQ]) (by simp[kQ])
theorem Ke {x y z:Operand} {mt A F:TypeId} {g ck:Nat} {es:Array MapEntry} {k v:Int} {cs':Array MapEntry→Nat→List Chunk} (B:P.underlying mt=some (.map A F)) (i:P.underlying A=some (.int .u64)) (p:pf es) (C:k≠0)
 (a:a_ l x=some (.map (some g))) (D:a_ l y=some (.int .u64 k)) (E:a_ l z=some (.int .i64 v)) (r: ∀f m,bn cs (kQ g es ck) (kQ g f m) (cs' f m))
 (h: ∀f m,pf f→az P n ops Q rest l (af b S (cs' f m))):az P n ops Q (⟨none,.mapUpdate mt x y z,ty,pos,a6,none⟩::rest) l (af b S cs):=by
 refine uh λJ w c s=>?_
 have o:w.heap[g]? = some (.map es ck):=s.has (r es ck).has
 rcases findNow_spec (d:= .int .u64) (k:= .int .u64 k) rfl es.toList 0 p.key with ⟨t,_⟩ | ⟨j,e,t,G,H⟩
 refine⟨_,?_,(h (es.push ⟨.int .u64 k,.int .i64 v,ck⟩) (ck+1) (λx a=>?_)).at (s.yK (r _ _))⟩;simp[execOp,c x _ a,c y _ D,c z _ E,Instr.mapUpdate,run_underlying B,MapKept.run_getObj_map o,MapKept.run_checkKey (k:= .int .u64 k) i rfl,MapKept.run_findKey i t,MapKept.run_setObj_map _ o,Result.andThen]
 simp only[Array.toList_push,cX,eL] at a
 rcases a with a | rfl
 exact p x a;exact⟨k,v,rfl,C,rfl⟩;have I:es[j]? = some e:=by simpa using G
 refine⟨_,?_,(h (es.modify j λe=>{ e with key:= .int .u64 k,val:= .int .i64 v }) ck (λx a=>?_)).at (s.yK (r _ _))⟩;simp[execOp,c x _ a,c y _ D,c z _ E,Instr.mapUpdate,run_underlying B,MapKept.run_getObj_map o,MapKept.run_checkKey (k:= .int .u64 k) i rfl,MapKept.run_findKey i t,I,H,run_keyThatStays (d:= .int .u64) (k:= .int .u64 k) rfl,MapKept.run_setObj_map _ o,Result.andThen]
 obtain⟨q,u⟩:=List.mem_iff_getElem?.1 a;rw[Array.getElem?_toList,qs] at u
 split at u
 obtain⟨K,_,rfl⟩:=Option.map_eq_some_iff.1 u;exact⟨k,v,rfl,C,rfl⟩;exact p x (c8 (by rwa [Array.getElem?_toList]))
theorem Kf {x y:Operand} {mt p z:TypeId} {g ck:Nat} {es:Array MapEntry} {k:Int} {cs':Array MapEntry→Nat→List Chunk} (u:P.underlying mt=some (.map p z)) (c:P.underlying p=some (.int .u64)) (q:pf es)
 (f:a_ l x=some (.map (some g))) (v:a_ l y=some (.int .u64 k)) (r: ∀a i,bn cs (kQ g es ck) (kQ g a i) (cs' a i))
 (h: ∀a i,pf a→az P n ops Q rest l (af b S (cs' a i))):az P n ops Q (⟨none,.call ⟨.builtin .delete,#[x,y],#[mt,p]⟩,ty,pos,a6,none⟩::rest) l (af b S cs):=by
 refine Fv λB w m s=>?_
 have o:w.heap[g]? = some (.map es ck):=s.has (r es ck).has
 rcases findNow_spec (d:= .int .u64) (k:= .int .u64 k) rfl es.toList 0 q.key with ⟨t,_⟩ | ⟨j,e,t,C,D⟩
 refine⟨.tuple #[],_,?_,(h es ck q).at (s.yK (r _ _))⟩;simp[execOp,resolve,invoke,builtin,m x _ f,m y _ v,Builtin.delete_,run_underlying u,MapKept.run_getObj_map o,MapKept.run_checkKey (k:= .int .u64 k) c rfl,MapKept.run_findKey c t,MapKept.run_setObj_map _ o,Result.andThen]
 refine⟨.tuple #[],_,?_,(h (es.eraseIdxIfInBounds j) ck (λx f=>q x ?_)).at (s.yK (r _ _))⟩;simp[execOp,resolve,invoke,builtin,m x _ f,m y _ v,Builtin.delete_,run_underlying u,MapKept.run_getObj_map o,MapKept.run_checkKey (k:= .int .u64 k) c rfl,MapKept.run_findKey c t,MapKept.run_setObj_map _ o,Result.andThen]
 have A: (es.eraseIdxIfInBounds j).toList.Sublist es.toList:=by
  unfold Array.eraseIdxIfInBounds;split
  simp only[Array.toList_eraseIdx];exact List.eraseIdx_sublist _ _
  exact List.Sublist.refl _
 exact A.subset f
theorem Xy {t:TypeId} (ak:Nat.blt d n=true) (h: ∀g,b.heap.size≤g→(∀k∈aB cs,k<g)→az P n ops Q rest ((d,.map (some g))::l) (af b S (kQ g #[] 0::cs))):
 az P n ops Q (⟨some d,.makeMap t none,ty,pos,a6,none⟩::rest) l (af b S cs):=by
 refine ht ak λe w f a=>⟨.map (some w.heap.size),w.alloc (.map #[] 0),?_,(h w.heap.size a.ext.size (λk c=>a.lt c)).at (a.add (Ext.alloc _ _ _) (heap_alloc w _).1 (by simp[kQ]) (by simp[kQ]))⟩
 simp[execOp,Instr.makeMap,Result.andThen]
end
end
end Go.Proofs.YtkeokgcdnfjaaaaGreatDoor.Mq
namespace Go.Proofs.YtkeokgcdnfjaaaaGreatDoor.Mq
open Go Go.RowKit Go.Proofs Tryz
section
structure bT where
 g:Nat
 top:Int
 dk:Bool
 b7:Nat
 p:cb
 T:bK
 st:cL
 cW:ho
 dp:Nat
 es:Array MapEntry
 ck:Nat
abbrev tL (s:bT):List Value:=[.int .i64 s.top,.bool s.dk,ptr s.b7,ptr s.st.g,ptr s.cW.g,.map (some s.dp)]
abbrev bT.an (s:bT):Chunk:=aD s.g (tL s) 82
abbrev cQ [Inhabited et] (s:bT):List Chunk:=[s.an,aT (fe s.p s.b7 s.p.g s.T),aT (cT s.st),aT (fR s.cW),kQ s.dp s.es s.ck]
abbrev bT.ap (s:bT):bq:=(firstT s.T).ap
def bT.rows (s:bT):Int:=s.ap.r.n+(s.ap.s.l.length:Int)
structure cD (s:bT) (m:Nat) (N:Int):Prop where
 par:fD s.p
 T:cj s.b7 s.ap.r.room m s.T
 st:fF s.st N
 cW:rv s.cW
 mp:pf s.es
 top:0≤s.top∧s.top≤1000000
theorem cj.first {g:Nat} {R:Int} {m:Nat} {t:bK} (h:cj g R m t):dS (firstT t):=by
 unfold firstT;split
 exact h.bj;exact h.am
theorem cD.small [Inhabited et] {s:bT} {m:Nat} {N:Int} (h:cD s m N):s.ap.s.l.length≤100∧s.ap.cols≤100∧s.ap.r.room≤100:=h.T.first.small
theorem cD.ring [Inhabited et] {s:bT} {m:Nat} {N:Int} (h:cD s m N):0≤s.ap.r.n∧s.ap.r.n≤100:=by
 have a:cV s.ap.r:=h.T.first.g.r
 have b:=a.n
 have c:=a.len
 have d:=h.small
 exact⟨b.1,aa⟩
section
variable {w:World} {s:bT}
theorem pg [Inhabited et] (h: (aT (cQ s)).pred w):s.an.pred w:=h _ av
theorem yL [Inhabited et] (h: (aT (cQ s)).pred w): (aT (fe s.p s.b7 s.p.g s.T)).pred w:=h _ av
theorem CX [Inhabited et] (h: (aT (cQ s)).pred w): (aT (cT s.st)).pred w:=h _ av
theorem vU [Inhabited et] (h: (aT (cQ s)).pred w): (eI s.b7 s.p.g s.T).pred w:=yL h _ av
theorem CY [Inhabited et] (h: (aT (cQ s)).pred w): (aT (aO (firstT s.T))).pred w:=by
 unfold firstT;split
 exact yL h _ av;exact yL h _ av
theorem vV [Inhabited et] (h: (aT (cQ s)).pred w): (firstT s.T).an.pred w:=CY h _ av
theorem yM [Inhabited et] (h: (aT (cQ s)).pred w):s.ap.an.pred w:=CY h _ av
theorem Xz [Inhabited et] (h: (aT (cQ s)).pred w):s.ap.r.an.pred w:=((CY h _ av: (aT (b9 s.ap.r)).pred w)) _ av
theorem XA [Inhabited et] (h: (aT (cQ s)).pred w): (kQ s.dp s.es s.ck).pred w:=h _ av
end
theorem yN [Inhabited et] (w:World) (s:bT) (a: (aT (cQ s)).pred w):Calls prog 13 [ptr s.g].toArray w (Pure (ptr s.b7) w):=by
 have b:=pg a
 refine aW func13 ntmps13 ?_;refine hh ?_;refine ba DM rfl rfl (λe c=>c.bV b (by (simp;done)) rfl) ?_;refine ay ?_;intro f d;exact⟨rfl,d.ext⟩
theorem Kg [Inhabited et] (w:World) (s:bT) (c: (aT (cQ s)).pred w):Calls prog 33 [ptr s.g].toArray w (Pure (.int .i64 (s.ap.s.l.length:Int)) w):=by
 have d:=pg c
 refine aW func33 ntmps33 ?_;refine aR ?_;refine ba DM rfl rfl (λh e=>e.bV d (by (simp;done)) rfl) ?_;refine ao rfl ot rfl (λa b=>o3 a s.b7 s.p.g s.T (vU (Chunk.dA _ c b.ext))) ?_;refine ao rfl jO rfl (λa b=>jW a (firstT s.T) (vV (Chunk.dA _ c b.ext))) ?_;refine ao rfl pA rfl (λa b=>pU a s.ap (yM (Chunk.dA _ c b.ext))) ?_;refine ay ?_;intro i f;exact⟨rfl,f.ext⟩
theorem CZ [Inhabited et] (w:World) (s:bT) {m:Nat} {N:Int} (d:cD s m N) (c: (aT (cQ s)).pred w):Calls prog 27 [ptr s.g].toArray w (Pure (.int .i64 s.rows) w):=by
 have f:=pg c
 have h:=d.small
 have i:=d.ring
 refine aW func27 ntmps27 ?_;refine aK ?_;refine ao rfl wy rfl (λb a=>yN b s (Chunk.dA _ c a.ext)) ?_;refine ao rfl ot rfl (λb a=>o3 b s.b7 s.p.g s.T (vU (Chunk.dA _ c a.ext))) ?_;refine ao rfl jO rfl (λb a=>jW b (firstT s.T) (vV (Chunk.dA _ c a.ext))) ?_;refine al ?_;refine ao rfl ou rfl (λb a=>oF b s.ap (yM (Chunk.dA _ c a.ext)) (Xz (Chunk.dA _ c a.ext))) ?_;refine aq ?_;refine ao rfl pA rfl (λb a=>pU b s.ap (yM (Chunk.dA _ c a.ext))) ?_;refine al ?_;intro j e;exact⟨rfl,e.ext⟩
theorem yO [Inhabited et] (w:World) (s:bT) {m:Nat} {N:Int} (a:cD s m N) (b: (aT (cQ s)).pred w):Calls prog 30 [ptr s.g].toArray w (Pure (d9 ⟨s.rows,0⟩) w):=by
 refine aW func30 ntmps30 ?_;refine ah ?_;intro f h i;refine ay ?_;refine ao rfl zr rfl (λc d=>CZ c s a (Chunk.dA _ b d.ext)) ?_;refine al ?_;intro j e;exact⟨rfl,e.ext⟩
def bT.most (s:bT) (n:Nat):Int:=max 0 ((n:Int) - (s.ap.s.l.length:Int))
theorem yP [Inhabited et] (w:World) (s:bT) {m:Nat} {N:Int} (a:cD s m N) (b: (aT (cQ s)).pred w) (A:Option Addr) (n c:Nat) (h:n≤1000000):Calls prog 63 [ptr s.g,.slice A n c].toArray w (Pure (.int .i64 (s.most n)) w):=by
 have i:=a.small
 refine aW func63 ntmps63 ?_;refine aR ?_;refine ao rfl D1 rfl (λd e=>Kg d s (Chunk.dA _ b e.ext)) ?_;refine aC ?_;intro j f;exact⟨rfl,f.ext⟩
theorem C0 [Inhabited et] (w:World) (s:bT) {m:Nat} {N:Int} (a:cD s m N) (b: (aT (cQ s)).pred w) (A:Option Addr) (n c:Nat) (h:n≤1000000):Calls prog 32 [ptr s.g,.slice A n c].toArray w (ca (λr:Int=> .int .i64 r) (λr=>0≤r∧r≤s.most n) w):=by
 have i:=pg b
 have q:=a.small
 have t:0≤s.most n:=by unfold bT.most;omega
 refine aW func32 ntmps32 ?_;refine bw ?_;refine ba px rfl rfl (λu j=>j.bV i (by (simp;done)) rfl) ?_;refine ar ?_;refine b2 rfl (λk=>?_) (λk=>?_);refine aS ?_;refine ao rfl wA rfl (λd e=>yP d s a (Chunk.dA _ b e.ext) A n c h) ?_;refine al ?_;intro l f;exact aP.bP _ aa rfl (by simpa [aB] using f);refine ah ?_;refine bG [0,1,2,3,4,5,6] 1 [[(7,false,[8,9,10])]] ?_;refine aS ?_;refine aL rfl (λv o=>(ba bM rfl rfl (λx p=>by subst p;exact o.bV i (by (simp;done)) rfl) aG)) ?_;refine aS ?_;refine ao rfl wA rfl (λd e=>yP d s a (Chunk.dA _ b e.ext) A n c h) ?_;refine aJ ?_;intro l f;exact aP.bP _ aa rfl (by simpa [aB] using f)
end
end Go.Proofs.YtkeokgcdnfjaaaaGreatDoor.Mq
