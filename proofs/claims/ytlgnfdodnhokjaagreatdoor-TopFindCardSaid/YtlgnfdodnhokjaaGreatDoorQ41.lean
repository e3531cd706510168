/- part 41 of the proof -/
import Derived.Test.YtlgnfdodnhokjaaGreatDoorQ40
namespace Go.Proofs.YtlgnfdodnhokjaaGreatDoor.Mq
open Go Go.RowKit Go.Proofs Tryz
structure Lq where
 i:Nat
 z:de
 q:List aY
structure YW (w:World) (rows:List bG) (l:List aY) (n m cols:Nat) (L:List (Int × Int)) (t:Lq):Prop where
 i:t.i≤L.length
 wide:ko cols t.z.l
 len:t.z.l.length≤t.i*100001
 q:t.q.length=m
 aF: ∃a:Nat,oR rows n a (L.drop t.i)∧a≤n∧ ∀p,l[0]? = some p→0≤p.row→p.row<(a:Int)→Good t.q t.z.l.length
theorem ko.hK {cols:Nat} {l r:List bS} (h:ko cols l) (k:ko cols r):ko cols (l++r):=λx a=>by
 rcases cZ.1 a with a | a
 exact h x a;exact k x a
theorem Lr {q:List aY} {j r s:Nat} {p:aY} (a:j<q.length) (b:j=0) (h:0≤p.row∧p.row<(s:Int)∧0≤p.cM):Good (q.set j ⟨p.row+(r:Int),p.cM⟩) (r+s):=by
 subst b;exact⟨_,List.getElem?_set_self a,by dsimp only;omega,by dsimp only;omega,h.2.2⟩
theorem Dx {cols:Nat}: ∀{l:List bS},ko cols l→d8 (b5 l)=l.length*cols
 | [],_=>by simp[d8]
 | g::l,h=>by
  have c:=(h g av).1
  have a:=Dx (l:=l) (λx b=>h x (by simp[b]))
  simp only[d8,lM,List.sum_cons,eO] at a ⊢
  rw[a,oy];show g.cells.length+_=_
  omega
theorem Ls {rows:List bG} (p:aY) (h:d8 rows≤100000): -9223372036854775808≤jG rows p∧jG rows p≤9223372036854775807:=by
 have:=Qp rows p
 omega
theorem YX (w:World) (F G:Nat→Prop) (A X:Option Addr) (n c m d:Nat) (rows:List bG) (l:List aY) (cols:Nat) (Zb:ez w F A n c rows) (ai:Rd cf w G X m d l) (Z7:n≤1000) (Z8:d8 rows≤100000) (Z9:m≤1000000) (Zy:2≤cols) (Zz:cols≤1000) (ZA: (d8 rows+1)*cols≤1000000) (ZB: ∀r∈rows,gP r.1):
 Calls prog 192 [.slice A n c,.int .i64 (cols:Int),.slice X m d].toArray w (aP (λt:de × ee=> .tuple #[t.1.val,t.2.val]) [] (λt=>[t.1.au,t.1.b9,t.2.au]) (λt=>ko cols t.1.l∧t.1.l.length≤200000000∧t.2.l.length=m∧ ∀p,l[0]? = some p→0≤p.row→p.row<(n:Int)→Good t.2.l t.1.l.length) w):=by
 have Zaa:=Zb.len
 have ZC:=ai.len
 refine aV func192 ntmps192 ?_;refine aJ ?_;refine qV 35 2 ?_;refine rn (E:=cf) (src:=l) (F:=G) (m:=0) (xs:=[]) l.length aa dD rfl rfl rfl (λ_=>by exact cA) (λw' W=>ai.ext W.ext av) (by simp only[maxLen];omega) aa (λI J=>?_);refine aC ?_;refine jd (e:=35) (sz:=2) (v:= .slice I l.length J) aT (λdG c9 ZD _ _ _ Zn=>?_);cases ZD
 refine ao rfl E_ rfl (λw' _=>uZ w' _) ?_;refine ah ?_;refine fA rfl (by simp;omega) ?_;refine bp ?_;refine a6 (l0:=[]) aA.nil rfl Ez rfl (λH D=>KX H _ A n c rows (Zb.ext D.ext av) aa) (λP Zo=>?_);refine aS ?_;refine cH (H':=af w [] [de.au ⟨none,0,[]⟩,de.b9 ⟨none,0,[]⟩,au 35 cf I J l,P.au]) ?_ (Sub.refl _) (λx ZE=>((ZE.eU 144 cl).tF).ax ae);have ZF:=AL rows n
 rw[←Zo] at ZF
 have Zp:=u3 rows n
 rw[←Zo] at Zp
 refine ar ?_;refine b2 (ι:=Lq) (λt=>[(0,.slice A n c),(1,.int .i64 (cols:Int)),(2,.slice X m d),(8,.slice I l.length J),(9,t.z.val),(29,P.val),(30,.int .i64 (P.l.length:Int)),(31,.int .i64 (t.i:Int))]) (λt=>af w [] [t.z.au,t.z.b9,au 35 cf I J t.q,P.au]) (YW w rows l n m cols P.l) (λt=>P.l.length - t.i) ?_ ?_;exact λw' W=>⟨⟨0,⟨none,0,[]⟩,l⟩,⟨bP _,λ_ h=>by simp at h,bP _,ZC,0,Zp,bP _,λp _ b k=>by omega⟩,(xn rfl rfl rfl rfl rfl rfl rfl rfl),W⟩
 rintro⟨i,z,q⟩ ⟨hi,Zf,ZG,Zg,a,Z,Zab,Zh⟩;dsimp only at hi Zf ZG Zg Z Zh ⊢
 refine al ?_;refine aj (λZH=>?_) (λZH=>?_);obtain⟨ZI,ZJ⟩ : ∃v,P.l[i]? = some v:=⟨_,bE aa⟩;have ZK:P.l.drop i=ZI::P.l.drop (i+1):=by
  obtain⟨b,k⟩:=cK.1 ZJ;rw[lK b,k]
 rw[ZK] at Z
 obtain⟨e,rfl,Zac,Zq,_,_,ZL⟩:=sS Z;have Zr:=Zb.cut (p:=a) (q:=e) aa Zq
 have Zad:=Zb.xx
 have Zae:d8 ((rows.take e).drop a)≤d8 rows:=fp (Ql _ _) (AH _ _)
 have Zaf:=Qo ((rows.take e).drop a)
 have Zag: ((rows.take e).drop a).length=e - a:=by rw[fJ,dl];omega
 have ZM:=YV (rows:=(rows.take e).drop a) (λr h=>ZB r (iE (lN h)))
 refine al ?_;refine jr (E:=mP) gD sy rfl rfl rfl bc aa (λZah ZN=>?_);refine cx zF rfl rfl rfl (λZai ZO j u T=>ZO.gJ (E:=mP) gD ZN bv j u T) ?_;refine ar ?_;intro Zs Zaj Zak;refine al ?_;refine ds (q:=0) underlying153 gB rfl rfl rfl bc aa ?_;refine ar ?_;refine ds (q:=1) underlying153 gB rfl rfl rfl bc aa ?_;refine ar ?_;refine fz a e dK rfl rfl (.inl ⟨_,_,rfl,rfl,rfl⟩) (.inl ⟨_,_,rfl,rfl,rfl⟩) aa aa ?_;refine al ?_;refine a6 (l0:=[]) aA.nil rfl Ox rfl (λH D=>(P9 H F _ (e - a) (c - a) _ (Zr.ext D.ext av) aa aa).mono (λ_ _ h=>h.fw aZ)) (λZc Zal=>?_);refine ar ?_;refine a6 (l0:=[]) aA.nil rfl Ow rfl (λH D=>YT H _ Zc.A Zc.n Zc.c (rf ((rows.take e).drop a)) cols ((D.has (c:=qE bK (rf ((rows.take e).drop a)) Zc) aT).2) aa Zy Zz ZM) (λf ZP=>?_);refine al ?_;obtain⟨Zt,ZQ,Zam⟩:=ZP;have Zi:d8 (b5 f.l)≤1000000:=by rw[Dx Zt];exact fp (k1 _ aa) ZA
 refine a6 (l0:=[]) aA.nil rfl Fa rfl (λH D=>(Gn H F _ (e - a) (c - a) _ (Zr.ext D.ext av) aa aa).mono (λ_ _ h=>h.fw aZ)) (λO ZR=>?_);refine ar ?_;refine a6 (l0:=[]) aA.nil rfl Fa rfl (λH D=>(Gn H _ f.A f.l.length f.c (b5 f.l) (oW (D.has (c:=f.au) bJ) (D.has (c:=f.b9) cr)) aa Zi).mono (λ_ _ h=>h.fw aZ)) (λQ Zu=>?_);refine bx ?_;rw[oT] at ZR Zu
 rw[cB] at Zu
 refine ar ?_;refine b2 (ι:=Nat × List aY) (λt=>[(0,.slice A n c),(1,.int .i64 (cols:Int)),(2,.slice X m d),(8,.slice I l.length J),(9,z.val),(11,ptr Zs),(13,f.val),(14,.slice O.A O.n O.c),(15,.slice Q.A Q.n Q.c),(29,P.val),(30,.int .i64 (P.l.length:Int)),(31,.int .i64 (i:Int)),(49,.slice X m d),(50,.int .i64 (m:Int)),(51,.int .i64 (t.1 :Int))])
  (λt=>af w [] [aD Zs [.int .i64 (a:Int),.int .i64 (e:Int)] 153,qE bT (iL (b5 f.l)) Q,qE bT (iL ((rows.take e).drop a)) O,f.au,f.b9,z.au,z.b9,au 35 cf I J t.2,P.au])
  (λt=>t.1≤m∧t.2.length=m∧(∀p,l[0]? = some p→0≤p.row→p.row<(a:Int)→Good t.2 z.l.length)∧ ∀p,l[0]? = some p→(a:Int)≤p.row→p.row<(e:Int)→1≤t.1→Good t.2 (z.l.length+f.l.length)) (λt=>m - t.1) ?_ ?_
 exact λw' W=>⟨(0,q),⟨bP _,Zg,Zh,λ_ _ _ _ h=>by omega⟩,(Sub.cons rfl (Sub.cons rfl (Sub.cons rfl (Sub.cons rfl (Sub.cons rfl (mO rfl rfl rfl rfl rfl rfl rfl rfl rfl rfl)))))),W.ax ae⟩
 rintro⟨j,B⟩ ⟨T,K,N,V⟩;dsimp only at T K N V ⊢
 refine al ?_;refine aj (λZS=>?_) (λZS=>?_);obtain⟨⟨S,Y⟩,R⟩ : ∃p,l[j]? = some p:=⟨_,bE aa⟩;obtain⟨bY,Zd,ZT,Ze⟩:=ai.at_ R;obtain⟨Za,U⟩:=Zn aa;have Zv: ∀off,0≤(j1 (b5 f.l) off).row∧(j1 (b5 f.l) off).row<(f.l.length:Int)∧0≤(j1 (b5 f.l) off).cM:=λoff=>by
  have:=YU (b5 f.l) off (by rw[cB];exact ZQ)
  rwa [cB] at this
 have ZU:=Zv (jG ((rows.take e).drop a) ⟨max 0 S - (a:Int),0⟩)
 have ZV:=Zv (jG ((rows.take e).drop a) ⟨max 0 S - (a:Int),Y⟩)
 refine aC ?_;refine bC (q:=j) dD rfl rfl rfl Zd rfl aa ?_;refine cx (vs:=[.int .i64 S,.int .i64 Y]) eg rfl rfl rfl (λZw b j u T=>b.cu (Ze j u T) av) ?_;refine ar ?_;intro Zan Zao Zap;refine eR ?_;refine bC (q:=j) dD rfl rfl rfl Zd rfl aa ?_;refine ar ?_;refine a_ (v:= .int .i64 S) bN rfl rfl (λZw b=>b.cu (Ze 0 _ rfl) av) ?_;refine ah ?_;refine aj (λZW=>?_) (λZW=>?_);refine aQ ?_;refine ds (q:=0) underlying153 gB rfl rfl rfl bc aa ?_;refine ah ?_;refine aW 72 rfl (λaH=>?_) (λaH=>?_);have ZX:=aX aH
 refine ey ?_;exact bi (j+1,B) ⟨aa,K,N,λp b k o _=>(gw j).elim (λC=>by subst C;rw[R] at b;cases b;exfalso;dsimp only at *;omega) (λy=>V p b k o y)⟩ bm (Sub.cons rfl (Sub.cons rfl (Sub.cons rfl (Sub.cons rfl (Sub.cons rfl (mO rfl rfl rfl rfl rfl rfl rfl rfl rfl rfl)))))) (λ_ h=>h.ax ae);have ZX:=bd aH
 refine ay ?_;refine ds (q:=1) underlying153 gB rfl rfl rfl bc aa ?_;refine aC ?_;refine aj (λZY=>?_) (λZY=>?_);refine aK ?_;exact bi (j+1,B) ⟨aa,K,N,λp b k o _=>(gw j).elim (λC=>by subst C;rw[R] at b;cases b;exfalso;dsimp only at *;omega) (λy=>V p b k o y)⟩ bm (Sub.cons rfl (Sub.cons rfl (Sub.cons rfl (Sub.cons rfl (Sub.cons rfl (mO rfl rfl rfl rfl rfl rfl rfl rfl rfl rfl)))))) (λ_ h=>h.ax ae);refine al ?_;refine ds (q:=0) underlying153 gB rfl rfl rfl bc aa ?_;refine bp ?_;refine ao rfl Fc rfl (λH D=>Gp H _ O.A O.n O.c ((rows.take e).drop a) ((D.has (c:=qE bT (iL ((rows.take e).drop a)) O) gD).2) _ _ aa aa) ?_;refine ao rfl Fb rfl (λH D=>sU H _ Q.A Q.n Q.c (b5 f.l) ((D.has (c:=qE bT (iL (b5 f.l)) Q) cr).2) _ (Ls _ aa) aa Zi) ?_;refine b7 ?_;refine bC (q:=j) dD rfl rfl rfl U rfl aa ?_;refine uf (E:=cf) (e:=35) (A:=I) (c:=J) (L:=B) (g:=Za) (q:=j) (a:=(⟨_,_⟩ :aY)) eg rfl rfl U aa FZ ?_;refine aC ?_
 (refine bi (j+1,B.set j ⟨(j1 (b5 f.l) (jG ((rows.take e).drop a) ⟨max 0 S - (a:Int),0⟩)).row+(z.l.length:Int),(j1 (b5 f.l) (jG ((rows.take e).drop a) ⟨max 0 S - (a:Int),0⟩)).cM⟩) ⟨aa,by dsimp only;rw[gc];exact K,λp b k o=>?_,λp b k o _=>?_⟩ bm (Sub.cons rfl (Sub.cons rfl (Sub.cons rfl (Sub.cons rfl (Sub.cons rfl (mO rfl rfl rfl rfl rfl rfl rfl rfl rfl rfl)))))) (λ_ h=>h.ax ae);exact (gw j).elim (λC=>by subst C;rw[R] at b;cases b;exfalso;dsimp only at *;omega) (λy=>(N p b k o).set y);exact (gw j).elim (λC=>Lr aa C (ZU)) (λy=>(V p b k o y).set y))
 refine aC ?_;refine ds (q:=0) underlying153 gB rfl rfl rfl bc aa ?_;refine ah ?_;refine aW 72 rfl (λZj=>?_) (λZj=>?_);have ZZ:=aX Zj
 refine ey ?_;exact bi (j+1,B) ⟨aa,K,N,λp b k o _=>(gw j).elim (λC=>by subst C;rw[R] at b;cases b;exfalso;dsimp only at *;omega) (λy=>V p b k o y)⟩ bm (Sub.cons rfl (Sub.cons rfl (Sub.cons rfl (Sub.cons rfl (Sub.cons rfl (mO rfl rfl rfl rfl rfl rfl rfl rfl rfl rfl)))))) (λ_ h=>h.ax ae);have ZZ:=bd Zj
 refine ay ?_;refine ds (q:=1) underlying153 gB rfl rfl rfl bc aa ?_;refine aC ?_;refine aj (λZ0=>?_) (λZ0=>?_);refine aK ?_;exact bi (j+1,B) ⟨aa,K,N,λp b k o _=>(gw j).elim (λC=>by subst C;rw[R] at b;cases b;exfalso;dsimp only at *;omega) (λy=>V p b k o y)⟩ bm (Sub.cons rfl (Sub.cons rfl (Sub.cons rfl (Sub.cons rfl (Sub.cons rfl (mO rfl rfl rfl rfl rfl rfl rfl rfl rfl rfl)))))) (λ_ h=>h.ax ae);refine al ?_;refine ds (q:=0) underlying153 gB rfl rfl rfl bc aa ?_;refine bp ?_;refine ao rfl Fc rfl (λH D=>Gp H _ O.A O.n O.c ((rows.take e).drop a) ((D.has (c:=qE bT (iL ((rows.take e).drop a)) O) gD).2) _ _ aa aa) ?_;refine ao rfl Fb rfl (λH D=>sU H _ Q.A Q.n Q.c (b5 f.l) ((D.has (c:=qE bT (iL (b5 f.l)) Q) cr).2) _ (Ls _ aa) aa Zi) ?_;refine b7 ?_;refine bC (q:=j) dD rfl rfl rfl U rfl aa ?_;refine uf (E:=cf) (e:=35) (A:=I) (c:=J) (L:=B) (g:=Za) (q:=j) (a:=(⟨_,_⟩ :aY)) eg rfl rfl U aa FZ ?_;refine aC ?_
 (refine bi (j+1,B.set j ⟨(j1 (b5 f.l) (jG ((rows.take e).drop a) ⟨max 0 S - (a:Int),Y⟩)).row+(z.l.length:Int),(j1 (b5 f.l) (jG ((rows.take e).drop a) ⟨max 0 S - (a:Int),Y⟩)).cM⟩) ⟨aa,by dsimp only;rw[gc];exact K,λp b k o=>?_,λp b k o _=>?_⟩ bm (Sub.cons rfl (Sub.cons rfl (Sub.cons rfl (Sub.cons rfl (Sub.cons rfl (mO rfl rfl rfl rfl rfl rfl rfl rfl rfl rfl)))))) (λ_ h=>h.ax ae);exact (gw j).elim (λC=>by subst C;rw[R] at b;cases b;exfalso;dsimp only at *;omega) (λy=>(N p b k o).set y);exact (gw j).elim (λC=>Lr aa C (ZV)) (λy=>(V p b k o y).set y))
 refine aK ?_;refine eC (E:=cl) dK rfl rfl rfl oO (λ_ _=>jk) b4 aa (λZk Zl=>?_);refine aK ?_;refine bi ⟨i+1,⟨Zk,Zl,z.l++f.l⟩,B⟩ ⟨by dsimp only;omega,Zf.hK Zt,?_,K,e,ZL,Zq,λp b k o=>?_⟩ bm (xn rfl rfl rfl rfl rfl rfl rfl rfl) (λ_ h=>?_);dsimp only;rw[b6];omega
 dsimp only;have Zaq:1≤m:=by have:=(cK.1 b).1;omega
 rw[b6];by_cases Z1:p.row<(a:Int)
 exact (N p b k Z1).mono aa;exact V p b aa o aa;have Zx:=(h.ax (l:=[z.b9,f.b9,au 144 cl Zk Zl (z.l++f.l),au 35 cf I J B,P.au]) ae).BU
 rw[←fQ] at Zx
 exact Zx.ax (l:=[au 144 cl Zk Zl (z.l++f.l),aR ((z.l++f.l).map bS.aF),au 35 cf I J B,P.au]) ae;have Z2:P.l.drop i=[]:=List.drop_eq_nil_of_le aa
 rw[Z2] at Z
 have Zar:a=n:=by
  rcases Z with ⟨_,h⟩ | ⟨M,s,h,_⟩
  exact h;exact absurd h.symm av
 refine b7 ?_;refine b2 (ι:=Nat × List aY) (λt=>[(0,.slice A n c),(8,.slice I l.length J),(9,z.val),(106,.slice X m d),(107,.int .i64 (m:Int)),(108,.int .i64 (t.1 :Int))])
  (λt=>af w [] [z.au,z.b9,au 35 cf I J t.2,P.au]) (λt=>t.1≤m∧t.2.length=m∧ ∀p,l[0]? = some p→0≤p.row→p.row<(n:Int)→Good t.2 z.l.length) (λt=>m - t.1) ?_ ?_
 exact λw' W=>⟨(0,q),⟨bP _,Zg,λp b k o=>Zh p b k aa⟩,(ip rfl rfl rfl rfl rfl rfl),W⟩
 rintro⟨j,B⟩ ⟨T,K,N⟩;dsimp only at T K N ⊢
 refine al ?_;refine aj (λZ3=>?_) (λZ3=>?_);obtain⟨⟨S,Y⟩,R⟩ : ∃p,l[j]? = some p:=⟨_,bE aa⟩;obtain⟨bY,Zd,ZT,Ze⟩:=ai.at_ R;obtain⟨Za,U⟩:=Zn aa;refine aC ?_;refine bC (q:=j) dD rfl rfl rfl Zd rfl aa ?_;refine cx (vs:=[.int .i64 S,.int .i64 Y]) eg rfl rfl rfl (λZw b j u T=>b.cu (Ze j u T) av) ?_;refine ar ?_;intro Zas Zat Zau;refine bx ?_;refine aW 118 rfl (λZm=>?_) (λZm=>?_);have Z4:=aX Zm
 refine bH ?_;refine bC (q:=j) dD rfl rfl rfl U rfl aa ?_;refine uf (E:=cf) (e:=35) (A:=I) (c:=J) (L:=B) (g:=Za) (q:=j) (a:=(⟨(z.l.length:Int),0⟩ :aY)) eg rfl rfl U aa nB ?_;refine aC ?_;exact bi (j+1,B.set j ⟨(z.l.length:Int),0⟩) ⟨aa,by dsimp only;rw[gc];exact K,λp b k o=>(gw j).elim (λC=>by subst C;rw[R] at b;cases b;exfalso;dsimp only at *;omega) (λy=>(N p b k o).set y)⟩ bm bR (λ_ h=>h.ax ae);have Z4:=bd Zm
 refine aJ ?_;refine aj (λZ5=>?_) (λZ5=>?_);refine al ?_;refine bC (q:=j) dD rfl rfl rfl U rfl aa ?_;refine uf (E:=cf) (e:=35) (A:=I) (c:=J) (L:=B) (g:=Za) (q:=j) (a:=(⟨(z.l.length:Int),0⟩ :aY)) eg rfl rfl U aa nB ?_;refine aC ?_;exact bi (j+1,B.set j ⟨(z.l.length:Int),0⟩) ⟨aa,by dsimp only;rw[gc];exact K,λp b k o=>(gw j).elim (λC=>by subst C;rw[R] at b;cases b;exfalso;dsimp only at *;omega) (λy=>(N p b k o).set y)⟩ bm bR (λ_ h=>h.ax ae);refine aC ?_;exact bi (j+1,B) ⟨aa,K,N⟩ bm bR (λ_ h=>h.ax ae);refine cF ?_;intro Zav Z6;exact aP.bQ (z,⟨I,J,B⟩) ⟨Zf,by dsimp only;omega,K,N⟩ (by rw[show l.length=B.length by omega]) (Z6.ax ae)
theorem YY (w:World) (F:Nat→Prop) (A:Option Addr) (n c:Nat) (rows:List bG) (e:ez w F A n c rows) (G:n≤1000000000) (p: ∀r∈rows,r.1.length≤1000000) (row:Int) (H:0≤row∧row≤1000000000000):Calls prog 193 [.slice A n c,.int .i64 row].toArray w
 (ca (λk:Nat=> .slice A k c) (λk=>k≤n∧(row<(n:Int)→row<(k:Int))) w):=by
 have I:=e.len
 have J:=e.xx
 refine aV func193 ntmps193 ?_;refine aC ?_;refine b2 (ι:=Nat) (λk=>[(0,.slice A k c),(1,.int .i64 row)]) (λ_=>af w [] []) (λk=>k≤n∧(row<(n:Int)→row<(k:Int))) (λk=>k) ?_ ?_;exact λw' s=>⟨n,⟨bW _,λh=>h⟩,(iK rfl rfl),s⟩
 rintro k ⟨i,j⟩;obtain⟨cs,bY,a,m,d,b⟩ : ∃(cs:List bh) (bY:Addr) (a:Option Addr) (m d:Nat),row+1<(k:Int)→A=some bY∧w.cell? ((bY.add ((k - 1)*2)).add 0)=some (.slice a m d)∧F bY.block∧Rd bK w F a m d cs∧m≤1000000:=by
  by_cases t:row+1<(k:Int)
  obtain⟨⟨cs,K⟩,l⟩ : ∃v,rows[k - 1]? = some v:=⟨_,bE aa⟩;have L:cs.length≤1000000:=p _ (da l)
  obtain⟨bY,a,m,d,u,x,y,o⟩:=e.at_ l;have M:cs.length=m:=o.len
  exact⟨cs,bY,a,m,d,λ_=>⟨u,y 0 _ rfl,x,o,aa⟩⟩;exact⟨[],⟨0,0,none⟩,none,0,0,λh=>absurd h t⟩
 refine aJ ?_;refine aW 10 rfl (λf=>?_) (λf=>?_);have z:=aX f
 refine aJ ?_;refine bC (q:=k - 1) dK rfl rfl rfl (b aa).1 aa aa ?_;refine ah ?_;refine a_ (v:= .slice a m d) sx rfl rfl (λN B=>B.cu (b aa).2.1 av) ?_;refine ar ?_;refine ao rfl Fe rfl (λC D=>Gf C F a m d cs ((b aa).2.2.2.1.ext D.ext av) (b aa).2.2.2.2) ?_;refine ay ?_;refine aj (λaH=>?_) (λaH=>?_);refine aK ?_;refine fz 0 (k - 1) dK rfl rfl (.inr ⟨rfl,rfl⟩) (.inl ⟨_,_,rfl,rfl,aa⟩) aa aa ?_;refine ah ?_;exact bi (k - 1) ⟨aa,λ_=>by omega⟩ aa (Sub.cons (by rw[kr,kr,v8];rfl) (uA rfl)) (λ_ h=>h);refine bH ?_;intro E g;exact ca.of k ⟨i,j⟩ rfl g.ext;have z:=bd f
 refine lV ?_;intro E g;exact ca.of k ⟨i,j⟩ rfl g.ext
theorem af.YZ {b w:World} {S:List Nat} {cs cs' l:List Chunk} (h:af b S cs w) (a:aA cs l cs') {k:Nat} (c:k∈aB l) (d:k<b.heap.size):k∈S:=
 (h.perm a.perm).ek k (by rw[iI];exact oq _ c) d
theorem Y0 (w:World) (r:dj) (S:a8 w (cc r)) (G:cX r) (F:Nat→Prop) (A:Option Addr) (n c:Nat) (rows:List bG) (H:ez w F A n c rows) (f: ∀k,F k→k∉aB (cc r)) (Zg:n≤1000000000) (T: ∀x∈rows,x.1.length≤1000000):
 Calls prog 194 [ptr r.g,.slice A n c].toArray w (aP (λi:Int × dj=> .int .i64 i.1) (cc r) (λi=>cc i.2) (λi=>i.2.g=r.g∧i.2.room=r.room∧cX i.2∧ ∀x∈i.2.rows,x∈rows) w):=by
 have Zh:=H.len
 have U:=H.hI
 obtain⟨g,eS,room,I,J,gone⟩:=r;have K:=G.room
 have L:=G.gone
 dsimp only at K L
 refine bI func194 ntmps194 S ?_;refine PW ?_;refine cH (H':=af w (aB (cc ⟨g,eS,room,I,J,gone⟩)) (cc ⟨g,⟨none,0,[]⟩,room,0,0,gone⟩)) ?_ (Sub.refl _) (λx a=>(((a.ax (l:=[dj.an ⟨g,⟨none,0,[]⟩,room,0,0,gone⟩]) ae).eU 144 cl).tF).ax ae);refine ey ?_;refine b2 (ι:=Nat × dj) (λt=>[(0,ptr g),(5,.int .u64 gone),(23,.slice A n c),(24,.int .i64 (n:Int)),(25,.int .i64 (t.1 :Int))]) (λt=>af w (aB (cc ⟨g,eS,room,I,J,gone⟩)) (cc t.2)) (λt=>t.1≤n∧t.2.g=g∧t.2.room=room∧cX t.2∧ ∀x∈t.2.rows,x∈rows) (λt=>n - t.1) ?_ ?_;exact λw' V=>⟨(0,⟨g,⟨none,0,[]⟩,room,0,0,gone⟩),⟨bP _,rfl,rfl,⟨by show ((0 :Nat):Int)≤room;omega,K,⟨iB 0,iB 0⟩,⟨iB 0,.inr rfl⟩,L⟩,λx a=>by simp[dj.rows] at a⟩,(ec rfl rfl rfl rfl rfl),V⟩
 rintro⟨i,⟨o,p,nT,s,z,B⟩⟩ ⟨hi,M,N,b,C⟩;dsimp only at hi M N b C ⊢
 subst M N;have W:=b.gone
 dsimp only at W
 refine al ?_;refine aj (λX=>?_) (λX=>?_);obtain⟨⟨cs,O⟩,D⟩ : ∃v,rows[i]? = some v:=⟨_,bE aa⟩;have Zi:cs.length≤1000000:=T _ (da D)
 obtain⟨bY,P,m,d,Y,Z,Za,Q⟩:=U.at_ D;have Zj:cs.length=m:=Q.len
 refine al ?_;refine bC (q:=i) dK rfl rfl rfl Y rfl aa ?_;refine cx (vs:=[.slice P m d,.bool O]) gV rfl rfl rfl (λZk Zb j u Zc=>Zb.cu (Za j u Zc) (by rw[block_add,block_add];exact f _ Z.1)) ?_;refine ar ?_;intro Zl Zm Zn;refine al ?_;refine a6 (l0:=cc ⟨o,p,nT,s,z,B⟩) ae rfl Af rfl (λZd E=>A9 Zd ⟨o,p,nT,s,z,B⟩ (E.bo ae) b _ P m d cs O (Q.ext E.ext (λk e=>f k e.1)) (λk e Ze=>f k e.1 (E.YZ ae Ze e.2)) aa) (λx a=>?_);refine aC ?_;refine bi (i+1,x.2) ⟨aa,a.1,a.2.1,a.2.2.1,λy R=>?_⟩ bm (ec rfl rfl rfl rfl rfl) (λ_ h=>h.ax ae);rw[a.2.2.2.1] at R
 exact (G6 R).elim (λh=>C y h) (λh=>by rw[h];exact da D);refine bx ?_;refine gS rfl rfl rfl rfl ?_;refine dn rfl rfl underlying54 underlying3 rfl ?_;refine ay ?_;intro Zo Zf;exact aP.bQ (_,⟨o,p,nT,s,z,B⟩) ⟨rfl,rfl,b,C⟩ rfl (Zf.ax ae)
end Go.Proofs.YtlgnfdodnhokjaaGreatDoor.Mq
namespace Go.Proofs.YtlgnfdodnhokjaaGreatDoor.Mq
open Go Go.RowKit Go.Proofs
theorem Y1 {w:World} {r:de} (i:r.au.pred w) {lo:Nat} (j:lo≤r.l.length) (m: (aR ((r.l.take lo).map bS.aF)).pred w):ez w (λk=>k∈aB [r.au,aR ((r.l.take lo).map bS.aF)]) r.A lo r.c (b5 (r.l.take lo)):=by
 have n:w.ownsRow 0 144 lh.sz r.val r.l.length (lh.all (r.l.map bS.u6)):=by
  have:w.ownsRow 0 144 2 r.val r.l.length (cl.all r.l):=i
  rw[GO] at this;exact this
 obtain⟨A,c,o,s⟩:=Rd.gf (E:=lh) n av;injection o with t D u
 subst t u;have b:=s.cut (p:=0) (q:=lo) (bP _) j
 rw[kr,kr,nf,←List.map_take] at b
 rw[show (if r.c=0 then r.A else r.A.map (λx=>x.add (0*lh.sz)))=r.A from v8 r.A r.c] at b
 refine⟨_,b.dC (λk a=>e_.2 ⟨r.au,by simp,jb.2 a⟩),by simp;rfl,λk x row a e=>?_⟩;rw[eD] at a e
 cases f: (r.l.take lo)[k]? with
 | none=>rw[f] at a;cases a
 | some g=>
  rw[f] at a e
  cases a;cases e
  have h:g.aF∈(r.l.take lo).map bS.aF:=dH.2 ⟨g,da f,rfl⟩
  have v:=m g.aF h
  obtain⟨F,d,y,z⟩:=u7 v;injection y with B G C
  subst B C;exact z.dC (λk a=>e_.2 ⟨aR ((r.l.take lo).map bS.aF),by simp,e_.2 ⟨g.aF,h,jb.2 a⟩⟩)
theorem af.zc {b w:World} {S:List Nat} {cs l1 l2:List Chunk} (h:af b S (aR (l1++l2)::cs) w):af b S (aR l1::aR l2::cs) w:=by
 have a:=h.lb
 rw[ea] at a
 have c:=a.close'
 have d:af b S (l2++(aR l1::cs)) w:=c.perm List.perm_middle.symm
 exact d.close'.perm (List.Perm.swap _ _ _)
theorem Lt (g i:Nat): ((⟨g,0,none⟩ :Addr).add (1*2)).add (i*2)=(⟨g,0,none⟩ :Addr).add ((i+1)*cf.sz):=by
 show _=(⟨g,0,none⟩ :Addr).add ((i+1)*2)
 rw[Addr.add_lit,Addr.add_lit,Addr.add_lit];congr 1
 omega
theorem Lu {cols:Int} (h:2≤cols∧cols≤1000): ((n0 cols).1.length:Int)=cols∧gP (n0 cols).1:=by
 unfold n0 lk;refine⟨by rw[hj];omega,λc a=>?_⟩;rw[(uu.1 a).2];exact bP _
abbrev wA (q:ee):Value:= .slice (if q.c=1 then q.A else q.A.map (λx=>x.add (1*2))) (q.l.length - 1) (q.c - 1)
structure Dy (p:bq) (rows cols:Int) (m:Nat) (i:aY × ee × bq):Prop where
 g:i.2.2.g=p.g
 r:cX i.2.2.r
 room:i.2.2.r.room=p.r.room
 P:c7 i.2.2.abs
 high: (i.2.2.s.l.length:Int)=rows
 wd:i.2.2.cols=cols
 bf:i.2.2.bf.l.length≤1
 y:0≤i.1.row∧i.1.row<rows
 x:0≤i.1.cM∧i.1.cM≤cols
 pl:i.2.1.l.length=m+1
end Go.Proofs.YtlgnfdodnhokjaaGreatDoor.Mq
namespace Go.Proofs.YtlgnfdodnhokjaaGreatDoor.Mq
open Go Go.RowKit Go.Proofs Tryz
theorem Y2 (w:World) (p:bq) (b:a8 w (bB p)) (rows cols:Int) (e: ¬((1≤rows∧rows≤1000)∧2≤cols∧cols≤1000)) (a:aY) (v:Value):Calls prog 134 [ptr p.g,.int .i64 rows,.int .i64 cols,d_ a,v].toArray w
 (aP (λi:ee=> .tuple #[d_ ⟨0,0⟩,.slice none 0 0,.int .i64 1]) (bB p) (λi=>bB p) (λ_=>True) w):=by
 obtain⟨f,h⟩:=a;refine bI func134 ntmps134 b ?_;refine ah ?_;intro j k l;refine ar ?_;intro m n o;refine cF ?_;refine ao rfl w2 rfl (λc q=>yr c rows cols) ?_;refine ay ?_;refine eE rfl (by simp;omega) ?_;refine aQ ?_;refine nn results134 (cy.eX eg rfl aT rfl rfl) (cy.tmp rfl) (cy.tmp rfl) (λr d=>?_);exact aN (⟨none,0,[]⟩ :ee) a1 d
theorem Lv {p:bq} (h:c7 p.abs): (∀x∈p.r.rows,x.1.length≤1000000)∧ ∀x∈b5 p.s.l,x.1.length≤1000000:=by
 have:=h.cols
 exact⟨λx a=>by have:=(h.nM x a).1;omega,λx a=>by have:=(h.wide x a).1;omega⟩
theorem Y3 {p:bq} (h:c7 p.abs) {b:Nat} (e:p.cols=(b:Int)) {l:List bS} (c:b5 l=p.r.rows++b5 p.s.l):ko b l:=λg d=>by
 have hm:g.fw∈p.r.rows++b5 p.s.l:=c▸dH.2 ⟨g,d,rfl⟩
 have f:p.abs.cols=p.cols:=rfl
 rcases cZ.1 hm with hm | hm
 have a:=h.nM _ hm
 exact⟨by have: ((g.cells.length:Nat):Int)=p.abs.cols:=a.1;omega,a.2⟩;have a:=h.wide _ hm
 exact⟨by have: ((g.cells.length:Nat):Int)=p.abs.cols:=a.1;omega,a.2⟩
theorem Y4 {α:Type} (l:List α) {lo hi:Nat} (h:lo≤hi):l.take lo++((l.take hi).drop lo++l.drop hi)=l:=by
 conv=>rhs;rw[←iF hi l,←iF lo (l.take hi)]
 rw[List.take_take,iG h,ea]
theorem Lw {l:List bS} {n:Nat} {x:bG} (h:x∈b5 (l.take n)):x∈b5 l:=by
 obtain⟨g,a,rfl⟩:=dH.1 h;exact dH.2 ⟨g,iE a,rfl⟩
theorem af.zd {b w:World} {S:List Nat} {cs cs' d l l2:List Chunk} (h:af b S cs w) (e:aA cs l cs') (f:aA cs' l2 d) {k:Nat} (g:k∈aB l):k∉aB l2:=λi=>by
 have a:=(h.perm e.perm).nodup
 rw[iI,fW] at a
 obtain⟨c,j,m⟩:=e_.1 i;exact a.2.2 k g k (e_.2 ⟨c,f.perm.mem_iff.2 (oq _ j),m⟩) rfl
theorem Y5 {p v:bq} {a b c:Int} (h:v.abs=fM p.abs a b c):v.abs= { p.abs with gi:=v.bf.l }:=by
 have d:v.bf.l=(fM p.abs a b c).gi:=aU (λq:b0=>q.gi) h
 rw[h,d];rfl
theorem Y6 {p u:bq} {rows:Int} {cols m lo hi:Nat} {a:aY} {q:ee} {R:dj} {y:de} {c:List bS} (w:u.g=p.g) (z:cX u.r) (d:u.abs= { (⟨p.g,R,y,(cols:Int),⟨none,0,[]⟩⟩ :bq).abs with gi:=u.bf.l }) (A:u.bf.l.length≤1) (h:cX R) (B:R.room=p.r.room) (C: ∀x∈R.rows,x∈b5 c) (i:ko cols c)
 (j:b5 y.l=b5 ((c.take hi).drop lo)++List.replicate (rows.toNat - ((c.take hi).drop lo).length) (n0 (cols:Int))) (H: (((c.take hi).drop lo).length:Int)≤rows) (I:1≤rows∧rows≤100) (J:2≤cols∧cols≤40) (D:0≤a.row∧a.row<rows) (E:0≤a.cM∧a.cM≤(cols:Int)) (F:q.l.length=m+1):Dy p rows (cols:Int) m (a,q,u):=by
 have k:u.abs.cG=b5 y.l:=by rw[d];rfl
 have o:u.abs.jL=R.rows:=by rw[d];rfl
 have t:u.abs.room=R.room:=by rw[d];rfl
 have e:u.abs.cols=(cols:Int):=by rw[d];rfl
 have G:=Lu (cols:=(cols:Int)) aa
 have v: ∀x∈b5 c,((x.1.length:Nat):Int)=(cols:Int)∧gP x.1:=λx b=>by
  obtain⟨g,f,rfl⟩:=dH.1 b;exact⟨by show ((g.cells.length:Nat):Int)=_;rw[(i g f).1],(i g f).2⟩
 have K: (u.abs.cG.length:Int)=rows:=by
  rw[k,j,b6,cB,hj];omega
 have L:=h.n
 have M:=h.len
 have N:=h.room
 refine⟨w,z,by show u.abs.room=_;rw[t,B],⟨by rw[e];omega,(show 1≤u.abs.cG.length∧u.abs.cG.length≤1000 by omega),λx b=>?_,λx b=>?_,?_⟩,?_,e,A,D,E,F⟩;rw[k,j] at b
 rw[e];rcases cZ.1 b with b | b
 obtain⟨g,f,rfl⟩:=dH.1 b;exact v _ (dH.2 ⟨g,iE (lN f),rfl⟩);rw[(uu.1 b).2];exact G
 rw[o] at b
 rw[e];exact v x (C x b);rw[o,t,ll];omega
 have:u.abs.cG.length=u.s.l.length:=by simp[bq.abs]
 dsimp only;omega
structure Dz where
 z:de
 q:ee
set_option maxHeartbeats 2000000 in
theorem Y7 (w:World) (p:bq) (ZA:a8 w (bB p)) (Y:cX p.r) (T:c7 p.abs) (Z9:p.s.l.length≤100∧p.cols≤100∧p.r.room≤100) (rows:Int) (cols:Nat) (Ze:1≤rows∧rows≤100) (Zf:2≤cols∧cols≤40) (a:aY) (ZB: (0≤a.row∧a.row≤1000)∧0≤a.cM∧a.cM≤1000) (F:Nat→Prop) (Zn:Option Addr) (m d:Nat) (l:List aY) (ai:Rd cf w F Zn m d l) (ZC: ∀k,F k→k∉aB (bB p)) (Zaa:m≤100000):
 Calls prog 134 [ptr p.g,.int .i64 rows,.int .i64 (cols:Int),d_ a,.slice Zn m d].toArray w
 (aP (λi:aY × ee × bq=> .tuple #[d_ i.1,wA i.2.1,.int .i64 0]) (bB p) (λi=>bB i.2.2++[i.2.1.au]) (Dy p rows (cols:Int) m) w):=by
 obtain⟨Zo,Zp⟩:=a;have ZD:=ai.len
 have Zab:=Y.n
 have Zac:=Y.len
 have Zad:=T.cols
 have Zae:=T.rows
 have Zaf:p.abs.cols=p.cols:=rfl
 have Zag:p.abs.cG.length=p.s.l.length:=by simp[bq.abs]
 dsimp only at ZB
 refine bI func134 ntmps134 ZA ?_;refine ah ?_;intro I Zah Zai;refine ar ?_;intro J Zaj Zak;refine cF ?_;refine ao rfl w2 rfl (λo f=>yr o rows (cols:Int)) ?_;refine ay ?_;refine fA rfl (by simp;omega) ?_;refine ah ?_;refine bF [0,2,3,4] 3 [[(1,false,[]),(5,false,[6,7,8,9,10]),(11,true,[])]] ?_;refine al ?_;refine ao rfl oL rfl (λo f=>oX o p (f.has cr) ((f.has gD: (aR (cc p.r)).pred o) p.r.an av)) ?_;refine ah ?_;refine ao rfl q6 rfl (λo f=>ri o p (f.has cr)) ?_;refine b7 ?_;refine bF [0,1,2,3,4,5,6,7,8] 1 [[(9,true,[])]] ?_;refine eL ?_;refine a6 (l0:=bB p) ae rfl zL rfl (λo f=>B7 o p (f.bo ae) Y (Lv T).1 (Lv T).2 aa) (λz Zq=>?_);refine al ?_;refine dy (E:=cf) ⟨_,_⟩ dD rfl rfl rfl rfl rfl (λZal Zam Zan=>?_);refine ar ?_;refine rn (E:=cf) (src:=l) (F:=F) (m:=1) (xs:=cf.all [(⟨p.r.n+max 0 (min Zo ((p.s.l.length:Int) - 1)),max 0 (min Zp p.cols)⟩ :aY)]) (m+1) aa dD rfl rfl rfl (λ_=>by exact cA) (λw' U=>ai.ext U.ext ZC) (by simp only[maxLen];omega) aa (λZ Za=>?_);refine b7 ?_;obtain⟨Q,ZE⟩ : ∃R:Int,R=p.r.n+max 0 (min Zo ((p.s.l.length:Int) - 1)):=⟨_,rfl⟩;obtain⟨S,ZF⟩ : ∃C:Int,C=max 0 (min Zp p.cols):=⟨_,rfl⟩;have Zao: (z.l.length:Int)=p.r.n+(p.s.l.length:Int):=by
  have:=aU List.length Zq
  rw[cB,b6,ll,cB] at this
  omega
 obtain⟨Zr,ZG⟩ : ∃n:Nat,p.cols=(n:Int):=⟨p.cols.toNat,aa⟩;have Zg:=Y3 T ZG Zq
 have Zap:d8 (b5 z.l)≤20000:=by
  rw[Dx Zg];exact fp (Nat.mul_le_mul (show z.l.length≤200 by omega) (show Zr≤100 by omega)) aZ
 subst ZD;have ZH: (d8 (b5 z.l)+1)*cols≤1000000:=fp (Nat.mul_le_mul (show _≤20001 by omega) Zf.2) aZ
 have ZI: ∀r∈b5 z.l,gP r.1:=λr Ze=>by
  obtain⟨g,Zh,rfl⟩:=dH.1 Ze;exact (Zg g Zh).2
 refine cH (H':=af w (aB (bB p)) (bB p++[z.au,z.b9,ee.au ⟨Z,Za,⟨Q,S⟩::l⟩,aD J [.int .i64 0,.int .i64 0] 35,aD I [.int .i64 Q,.int .i64 S] 35])) ?_ (Sub.refl _) (λx H=>by subst ZE ZF;exact H.ax ae);refine hL (λi:Dz=>[(0,ptr p.g),(1,.int .i64 rows),(2,.int .i64 (cols:Int)),(8,ptr I),(10,ptr J),(13,i.z.val),(14,i.q.val)]) (λi=>af w (aB (bB p)) (bB p++[i.z.au,i.z.b9,i.q.au,aD J [.int .i64 0,.int .i64 0] 35,aD I [.int .i64 Q,.int .i64 S] 35])) (λi=>ko cols i.z.l∧i.z.l.length≤200000000∧i.q.l.length=l.length+1∧Good i.q.l i.z.l.length) ?_ ?_
 ·refine aj (λZJ=>?_) (λZJ=>?_)
  ·skip
   refine aS ?_;refine a6 (l0:=[]) aA.nil rfl NY rfl (λo f=>YX o _ _ z.A Z z.l.length z.c (l.length+1) Za (b5 z.l) (⟨Q,S⟩::l) cols (oW (f.has (c:=z.au) kz) (f.has (c:=z.b9) e4)) (hv (E:=cf) (L:=⟨Q,S⟩::l) (A:=Z) (c:=Za) (e:=35) (f.has xl)) aa aa aa Zf.1 aa ZH ZI) (λt O=>?_);refine al ?_;exact dr (⟨t.1,t.2⟩ :Dz) ⟨O.1,O.2.1,O.2.2.1,O.2.2.2 _ rfl bm bm⟩ (gX rfl rfl rfl rfl rfl rfl rfl) (λ_ h=>h.ax ae)
  ·skip
   refine ar ?_;exact dr (⟨z,⟨Z,Za,⟨Q,S⟩::l⟩⟩ :Dz) ⟨by rw[show cols=Zr by omega];exact Zg,by dsimp only;omega,rfl,⟨_,rfl,by dsimp only;omega,by dsimp only;omega,by dsimp only;omega⟩⟩ (gX rfl rfl rfl rfl rfl rfl rfl) (λ_ h=>h)
 rintro⟨⟨K,M,b⟩,⟨B,D,G⟩⟩ ⟨Zi,ZK,ZL,⟨N,c0⟩,Zs,ZM,Zt,ZN⟩;dsimp only at Zi ZK ZL Zs ZM Zt ZN ⊢
 have Zu: ∀x∈b5 b,x.1.length≤1000000:=λx H=>by
  obtain⟨g,Zh,rfl⟩:=dH.1 H;have:g.cells.length=cols:=(Zi g Zh).1
  show g.cells.length≤_
  omega
 refine aS ?_;refine jd (e:=144) (sz:=2) (v:= .slice K b.length M) kz (λdG c9 Zj ZO Zaq _ _=>?_);cases Zj
 dsimp only at ZO
 refine jr (E:=cf) (e:=35) (L:=G) (A:=B) (c:=D) (q:=0) xl dD rfl rfl rfl rfl aa (λZar ZP=>?_);refine cx (vs:=[.int .i64 N,.int .i64 c0]) eg rfl rfl rfl (λZQ V j u Zk=>V.gJ (E:=cf) (e:=35) (L:=G) (A:=B) (c:=D) xl ZP Zs j u Zk) ?_;refine aK ?_;refine a6 (l0:=[]) aA.nil rfl NZ rfl (λo f=>YY o _ K b.length M (b5 b) (oW (r:=⟨K,M,b⟩) (f.has kz) (f.has e4)) aa Zu N aa) (λk Zb=>?_);refine ey ?_;obtain⟨lo,ZR⟩ : ∃lo:Nat,max 0 (min ((k:Int) - rows) N)=(lo:Int):=⟨(max 0 (min ((k:Int) - rows) N)).toNat,aa⟩;obtain⟨hi,ZS⟩ : ∃hi:Nat,min (k:Int) ((lo:Int)+rows)=(hi:Int):=⟨(min (k:Int) ((lo:Int)+rows)).toNat,aa⟩;have Zas:=Zb.1
 have Zat:=Zb.2 Zt
 have ZT:lo≤hi∧hi≤k:=by omega
 rw[ZR];refine oP ?_;refine fz lo hi dK rfl rfl (.inl ⟨_,_,rfl,rfl,rfl⟩) (.inl ⟨_,_,rfl,rfl,ZS⟩) aa aa ?_;refine qV 144 2 ?_;refine rn (E:=cl) (src:=(b.take hi).drop lo) (F:=λ_=>True) (m:=0) (xs:=[]) (hi - lo) aa dK rfl rfl rfl (λ_=>by exact cA) (λw' U=>(hv (E:=cl) (e:=144) (A:=K) (c:=M) (L:=b) (U.has e4)).cut (p:=lo) (q:=hi) aa aa) (by simp only[maxLen];omega) aa (λW X=>?_);refine al ?_;have Zv:hi - lo=((b.take hi).drop lo).length:=by rw[fJ,dl];omega
 have ZU:b.map bS.aF=(b.take lo).map bS.aF++(((b.take hi).drop lo).map bS.aF++(b.drop hi).map bS.aF):=by
  rw[←fQ,←fQ,Y4 b ZT.1]
 refine cH (H':=af w (aB (bB p)) (bB (⟨p.g,p.r,⟨W,X,((b.take hi).drop lo)⟩,(cols:Int),⟨none,0,[]⟩⟩ :bq)++[aR ((b.take lo).map bS.aF),(⟨K,M,b⟩ :de).au,(⟨B,D,G⟩ :ee).au,aD J [.int .i64 0,.int .i64 0] 35,aD I [.int .i64 N,.int .i64 c0] 35])) ?_ (Sub.refl _) (λx H=>by
  rw[Zv] at H
  have Zw:=H.ax (l:=[aR (b.map bS.aF),(⟨p.g,p.r,⟨W,X,((b.take hi).drop lo)⟩,(cols:Int),⟨none,0,[]⟩⟩ :bq).an,aR (cc p.r),de.au ⟨W,X,((b.take hi).drop lo)⟩,(⟨K,M,b⟩ :de).au,(⟨B,D,G⟩ :ee).au,aD J [.int .i64 0,.int .i64 0] 35,aD I [.int .i64 N,.int .i64 c0] 35]) ae
  rw[ZU] at Zw
  exact (((Zw.zc.perm (List.Perm.swap _ _ _)).zc).eU 180 j3).ax ae)
 refine ah ?_;refine a6 (l0:=bB (⟨p.g,p.r,⟨W,X,((b.take hi).drop lo)⟩,(cols:Int),⟨none,0,[]⟩⟩ :bq)) ae rfl zZ rfl (λo f=>B6 o (⟨p.g,p.r,⟨W,X,((b.take hi).drop lo)⟩,(cols:Int),⟨none,0,[]⟩⟩ :bq) (f.bo ae) rows aa bm) (λy ZV=>?_);refine aS ?_;refine bF [0,1,2,3,4,5,6] 1 [[(7,true,[8])]] ?_;refine al ?_;refine aL rfl (λZau Zav=>(fz 0 lo dK rfl rfl (.inr ⟨rfl,rfl⟩) (.inl ⟨_,_,rfl,rfl,rfl⟩) aa aa aG)) ?_;refine aq ?_;rw[v8,kr,kr];refine kM (l0:=cc p.r) (cs1:=λ_=>_) (λ_=>ew) rfl N0 rfl (λo f=>Y0 o p.r (f.kL bJ) Y _ K lo M (b5 (b.take lo)) (Y1 (r:=(⟨K,M,b⟩ :de)) (lo:=lo) (f.has e4) bm (f.has kz)) (λk Zb=>by have V:=f.zd (l:=[(⟨K,M,b⟩ :de).au,aR ((b.take lo).map bS.aF)]) (l2:=[aR (cc p.r)]) ae ae Zb;rwa [show aB [aR (cc p.r)]=aB (cc p.r) by simp[aB,aR]] at V) aa (λx H=>Zu x (Lw H))) (λt O=>?_);refine al ?_;refine cH (H':=af w (aB (bB p)) (bB (⟨p.g,t.2,y,(cols:Int),⟨none,0,[]⟩⟩ :bq)++[aR ((b.take lo).map bS.aF),(⟨K,M,b⟩ :de).au,(⟨B,D,G⟩ :ee).au,aD J [.int .i64 0,.int .i64 0] 35,aD I [.int .i64 N,.int .i64 c0] 35])) ?_ (Sub.refl _) (λx H=>by have e:=O.1;simp only[bB,bq.an,nH,e];exact H.ax ae);refine ay ?_;have Zl:cX t.2:=O.2.2.1
 have ZW:b5 y.l=b5 ((b.take hi).drop lo)++List.replicate (rows.toNat - ((b.take hi).drop lo).length) (n0 (cols:Int)):=ZV
 refine hL (λ_:bq=>[(0,ptr p.g),(1,.int .i64 rows),(2,.int .i64 (cols:Int)),(8,ptr I),(10,ptr J),(14,(⟨B,D,G⟩ :ee).val),(15,.int .i64 (lo:Int))]) (λu=>af w (aB (bB p)) (bB u++[(⟨B,D,G⟩ :ee).au,aD J [.int .i64 0,.int .i64 0] 35,aD I [.int .i64 N,.int .i64 c0] 35])) (λu=>u.g=p.g∧cX u.r∧u.abs= { (⟨p.g,t.2,y,(cols:Int),⟨none,0,[]⟩⟩ :bq).abs with gi:=u.bf.l }∧u.bf.l.length≤1) ?_ ?_
 ·refine aj (λaH=>?_) (λaH=>?_)
  ·skip
   refine ah ?_;refine a6 (l0:=bB (⟨p.g,t.2,y,(cols:Int),⟨none,0,[]⟩⟩ :bq)) ae rfl pO rfl (λo f=>p9 o (⟨p.g,t.2,y,(cols:Int),⟨none,0,[]⟩⟩ :bq) (f.bo ae) Zl av 2 0 _) (λv Zc=>?_);refine ar ?_;exact dr v ⟨Zc.1,Zc.2.1,Y5 Zc.2.2,by have:=aU (λq=>q.gi.length) Zc.2.2;exact Nat.le_of_eq this⟩ bR (λ_ h=>h.ax ae)
  ·skip
   refine ar ?_;exact dr (⟨p.g,t.2,y,(cols:Int),⟨none,0,[]⟩⟩ :bq) ⟨rfl,Zl,rfl,bP _⟩ (gX rfl rfl rfl rfl rfl rfl rfl) (λ_ h=>h.ax ae)
 rintro u ⟨ZX,ZY,ZZ,Z0⟩;refine aS ?_;refine jd (e:=35) (sz:=2) (v:= .slice B G.length D) kz (λdG c9 Zj Z1 Zaw _ Zx=>?_);cases Zj
 dsimp only at Z1 Zx
 refine fz 1 G.length dD rfl rfl (.inl ⟨_,_,rfl,rfl,rfl⟩) (.inr ⟨rfl,rfl⟩) aa aa ?_;refine bx ?_;refine b2 (ι:=Nat × List aY) (λi=>[(1,.int .i64 rows),(2,.int .i64 (cols:Int)),(8,ptr I),(10,ptr J),(15,.int .i64 (lo:Int)),(17,(.slice (if D=1 then B else B.map (λx=>x.add (1*2))) (G.length - 1) (D - 1):Value)),(121,(.slice (if D=1 then B else B.map (λx=>x.add (1*2))) (G.length - 1) (D - 1):Value)),(122,.int .i64 ((G.length - 1 :Nat):Int)),(123,.int .i64 (i.1 :Int))])
  (λi=>af w (aB (bB p)) (bB u++[ee.au ⟨B,D,i.2⟩,aD J [.int .i64 0,.int .i64 0] 35,aD I [.int .i64 N,.int .i64 c0] 35])) (λi=>i.1≤G.length - 1∧i.2.length=G.length) (λi=>G.length - 1 - i.1) ?_ ?_
 ·exact λw' U=>⟨(0,G),⟨bP _,rfl⟩,(uV rfl rfl rfl rfl rfl rfl rfl rfl rfl),U⟩
 ·rintro⟨i,P⟩ ⟨Z2,Zd⟩
  dsimp only at Z2 Zd ⊢
  refine al ?_;refine aj (λZ3=>?_) (λZ3=>?_)
  ·obtain⟨Zy,Zm⟩:=Zx aa
   have Zz: (if D=1 then B else B.map (λx=>x.add (1*2)))=some ((⟨Zy,0,none⟩ :Addr).add (1*2)):=by rw[ag aa,Zm];rfl
   obtain⟨⟨Z4,Z5⟩,Z6⟩ : ∃x,P[i+1]? = some x:=⟨_,bE aa⟩;refine aC ?_;refine bC (q:=i) dD rfl rfl rfl Zz rfl aa ?_;rw[Lt];refine cx (vs:=[.int .i64 Z4,.int .i64 Z5]) eg rfl rfl rfl (λZQ V j u Zk=>V.gJ (E:=cf) (e:=35) (L:=P) (A:=B) (c:=D) kz Zm Z6 j u Zk) ?_;refine ar ?_;intro Zax Zay Zaz;refine b7 ?_;refine aj (λZ7=>?_) (λZ7=>?_)
   ·skip
    refine aC ?_;refine bC (q:=i) dD rfl rfl rfl Zz rfl aa ?_;rw[Lt];refine uf (E:=cf) (e:=35) (A:=B) (c:=D) (L:=P) (g:=Zy) (q:=i+1) (a:=(⟨(lo:Int)+rows,0⟩ :aY)) eg rfl rfl Zm aa uU ?_;refine aC ?_;exact bi (i+1,P.set (i+1) ⟨(lo:Int)+rows,0⟩) ⟨aa,by dsimp only;rw[gc];exact Zd⟩ bm bR (λ_ h=>h.ax ae)
   ·skip
    refine aC ?_;exact bi (i+1,P) ⟨aa,Zd⟩ bm bR (λ_ h=>h.ax ae)
  ·refine oP ?_
   refine nn results134 (cy.eX eg rfl e4 rfl rfl) (cy.tmp rfl) (cy.tmp rfl) (λZba Z8=>?_);exact aP.bQ (⟨N - (lo:Int),min c0 (cols:Int)⟩,⟨B,D,P⟩,u) (Y6 ZX ZY ZZ Z0 Zl O.2.1 (λx H=>Lw (O.2.2.2 x H)) Zi ZW (by rw[←Zv];omega) Ze Zf ⟨by dsimp only;omega,by dsimp only;omega⟩ ⟨by dsimp only;omega,by dsimp only;omega⟩ bm) (by rw[show G.length=P.length from Zd.symm];rfl) (Z8.ax ae)
end Go.Proofs.YtlgnfdodnhokjaaGreatDoor.Mq
