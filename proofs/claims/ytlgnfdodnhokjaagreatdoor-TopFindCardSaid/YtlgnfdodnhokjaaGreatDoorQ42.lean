/- part 42 of the proof -/
import Derived.Test.YtlgnfdodnhokjaaGreatDoorQ41
namespace Go.Proofs.YtlgnfdodnhokjaaGreatDoor.Mq
open Go Go.RowKit Go.Proofs Tryz
theorem Y8 {p:bq} (h:c7 p.abs) {x:bS} (b:x∈p.s.l):x.cells.length≤1000∧gP x.cells:=by
 have a:=h.wide x.fw (dH.2 ⟨x,b,rfl⟩)
 have c:=h.cols
 have d: ((x.cells.length:Nat):Int)=p.abs.cols:=a.1
 exact⟨aa,a.2⟩
theorem Y9 (A:Option Addr) (m n c:Nat) (xs dh:List Value): (own 144 2 (.slice A m c) m xs).ch=(own 144 2 (.slice A n c) n dh).ch:=by
 cases A <;> rfl
structure Lx (p:bq) (rows cols:Int) (q:bq):Prop where
 g:q.g=p.g
 r:cX q.r
 room:q.r.room=p.r.room
 P:c7 q.abs
 high: (q.s.l.length:Int)=rows
 wd:q.cols=cols
 bf:q.bf.l=[]
theorem Y_ (w:World) (F:Nat→Prop) (A:Option Addr) (n c:Nat) (row:List bh) (b:Rd bK w F A n c row) (a:n≤1000000):
 Calls prog 200 [.slice A n c].toArray w (fi (λi:Option Addr × Nat=> .slice i.1 (cT id row).length i.2) (λi=>dN (.slice i.1 (cT id row).length i.2) (cT id row)) (λ_=>True) w):=by
 refine (QY w F A n c row b a).mono ?_;rintro e w' ⟨v,_,rfl,f,ai,g,a⟩;obtain⟨h,d,rfl⟩:=wJ ai;exact⟨(h,d),a1,rfl,f,ai,g,a⟩
theorem aaa {w:World} {g n:Nat} {R:List bh} (h: (own 215 8 (.slice (some ⟨g,0,none⟩) n n) n (bK.all R)).pred w) (a:R.length=n):Rd bK w (λ_=>True) (some ⟨g,0,none⟩) n n R:=by
 obtain⟨A,c,b,d⟩:=Rd.gf (E:=bK) (show w.ownsRow 0 215 bK.sz (.slice (some ⟨g,0,none⟩) n n) n (bK.all R) from h) a;injection b with e _ f
 subst e f;exact d.dC (λ_ _=>a1)
theorem aab {p:bq} {t:dj} {y:de} {L:List bS} {rows:Int} {cols:Nat} (b:t.g=p.r.g∧t.room=p.r.room∧cX t∧t.rows=[]) (c:b5 y.l=b5 L++List.replicate (rows.toNat - L.length) (n0 (cols:Int))) (f: ∀x∈L,x.cells.length≤1000∧gP x.cells) (ak: ∀j x,j<L.length→L[j]? = some x→x.cells.length=cols) (k: (L.length:Int)≤rows) (m:1≤rows∧rows≤100) (o:2≤cols∧cols≤1000):Lx p rows (cols:Int) (⟨p.g,t,y,(cols:Int),⟨none,0,[]⟩⟩ :bq):=by
 have h:=Lu (cols:=(cols:Int)) aa
 have i: (y.l.length:Int)=rows:=by
  have:=aU List.length c
  rw[cB,b6,cB,hj] at this
  omega
 have q:=b.2.2.1.n
 have s:=b.2.2.1.len
 have u:=b.2.2.1.room
 refine⟨rfl,b.2.2.1,b.2.1,⟨by show 2≤(cols:Int)∧(cols:Int)≤1000;omega,by show 1≤(b5 y.l).length∧(b5 y.l).length≤1000;rw[cB];omega,λx a=>?_,λx a=>?_,by show ((t.rows.length:Nat):Int)≤t.room∧t.room≤100000;rw[b.2.2.2];simp only[lL];omega⟩,i,rfl,rfl⟩;have a:x∈b5 y.l:=a
 rw[c] at a
 show ((x.1.length:Nat):Int)=(cols:Int)∧_
 rcases cZ.1 a with a | a
 obtain⟨g,d,rfl⟩:=dH.1 a;obtain⟨j,e⟩:=List.mem_iff_getElem?.1 d;have:=ak j g (cK.1 e).1 e
 exact⟨by show ((g.cells.length:Nat):Int)=_;omega,(f g d).2⟩;rw[(uu.1 a).2];exact h
 have a:x∈t.rows:=a
 rw[b.2.2.2] at a;cases a
theorem aac (w:World) (p:bq) (X:a8 w (bB p)) (Y:cX p.r) (T:c7 p.abs) (rows:Int) (cols:Nat) (Z:1≤rows∧rows≤100) (Za:2≤cols∧cols≤1000):Calls prog 138 [ptr p.g,.int .i64 rows,.int .i64 (cols:Int)].toArray w
 (aP (λ_:bq=> .int .i64 0) (bB p) bB (Lx p rows (cols:Int)) w):=by
 have Zs:=T.rows
 have Zt:p.abs.cG.length=p.s.l.length:=by simp[bq.abs]
 refine bI func138 ntmps138 X ?_;refine dB ?_;refine ao rfl w2 rfl (λn b=>yr n rows (cols:Int)) ?_;refine ay ?_;refine fA rfl (by simp;omega) ?_;obtain⟨K,Zb⟩ : ∃K:Nat,min (p.s.l.length:Int) rows=(K:Int):=⟨(min (p.s.l.length:Int) rows).toNat,aa⟩;refine aK ?_;refine kM (l0:=cc p.r) (cs1:=λ_=>_) (λ_=>ew) rfl N1 rfl (λn b=>GZ n p.r (b.kL bJ) Y) (λt U=>?_);refine al ?_;refine jd (e:=144) (sz:=2) (v:=p.s.val) cr (λdG c9 Zc Zu Zv _ Zd=>?_);injection Zc with Ze _ Zf
 subst Ze Zf;refine aQ ?_;refine bF [0,1,2,3,4,5,6,7,8,9,10,11,12,13,14] 1 [[(15,true,[])]] ?_;refine bx ?_;refine aL rfl (λZg Zh=>(fz 0 K dK rfl rfl (.inr ⟨rfl,rfl⟩) (.inl ⟨_,_,rfl,rfl,Zb⟩) aa aa aG)) ?_;refine aS ?_;rw[v8,kr,kr];refine aC ?_;have Zi: (p.s.l.take K).length=K:=by rw[dl];omega
 have Zj:K≤p.s.l.length:=by omega
 have Zk:p.s.l.map bS.aF=(p.s.l.take K).map bS.aF++(p.s.l.drop K).map bS.aF:=by rw[←fQ,iF]
 refine cH (H':=af w (aB (bB p)) [aD p.g [.pointer (some ⟨p.r.g,0,none⟩),.slice p.s.A K p.s.c,.int .i64 (cols:Int),.slice none 0 0] 141,aR (cc t),own 144 2 (.slice p.s.A K p.s.c) K (cl.all (p.s.l.take K)),aR ((p.s.l.take K).map bS.aF),lY.au ⟨none,0,[]⟩]) ?_ (Sub.refl _) (λx m=>by
  have o:=m.ax (l:=[aR (p.s.l.map bS.aF),aD p.g [.pointer (some ⟨p.r.g,0,none⟩),.slice p.s.A K p.s.c,.int .i64 (cols:Int),.slice none 0 0] 141,aR (cc t),p.s.au]) ae
  rw[Zk] at o
  have J:=(o.zc).conv (c:=p.s.au) (c':=own 144 2 (.slice p.s.A K p.s.c) K (cl.all (p.s.l.take K))) jk (Y9 p.s.A K p.s.l.length p.s.c _ _) (λh=>by have D:=CQ (j:=K) Zj h;rw[←show (cl.all (p.s.l.take K))=(cl.all p.s.l).take (K*2) from cl.CT p.s.l K] at D;exact D)
  exact (J.eU 180 j3).ax ae)
 refine aQ ?_;refine b2 (ι:=Nat × List bS) (λi=>[(0,ptr p.g),(1,.int .i64 rows),(2,.int .i64 (cols:Int)),(48,.slice p.s.A K p.s.c),(49,.int .i64 (K:Int)),(50,.int .i64 (i.1 :Int))])
  (λi=>af w (aB (bB p)) [aD p.g [.pointer (some ⟨p.r.g,0,none⟩),.slice p.s.A K p.s.c,.int .i64 (cols:Int),.slice none 0 0] 141,aR (cc t),own 144 2 (.slice p.s.A K p.s.c) K (cl.all i.2),aR (i.2.map bS.aF),lY.au ⟨none,0,[]⟩])
  (λi=>i.1≤K∧i.2.length=K∧(∀x∈i.2,x.cells.length≤1000∧gP x.cells)∧ ∀j x,j<i.1→i.2[j]? = some x→x.cells.length=cols) (λi=>K - i.1) ?_ ?_
 ·exact λw' Zl=>⟨(0,p.s.l.take K),⟨bP _,Zi,λx m=>Y8 T (iE m),λ_ _ h=>by omega⟩,(ip rfl rfl rfl rfl rfl rfl),Zl⟩
 ·rintro⟨i,L⟩ ⟨hi,M,G,N⟩
  dsimp only at hi M G N ⊢
  refine al ?_;refine aj (λZm=>?_) (λZm=>?_)
  ·obtain⟨gs,H⟩:=Zd aa
   obtain⟨x,m⟩ : ∃x,L[i]? = some x:=⟨_,bE aa⟩;have Zn:=G x (da m)
   subst M;refine aC ?_;refine bC (q:=i) dK rfl rfl rfl H rfl aa ?_;refine cx (vs:=x.enc) gV rfl rfl rfl (λZw D j u I=>D.gJ (E:=cl) (e:=144) (L:=L) (A:=p.s.A) (c:=p.s.c) cr H m j u I) ?_;refine ar ?_;intro Zo Zx Zy;refine aC ?_;refine sq cols dv rfl rfl rfl rfl (by simp only[maxLen];omega) aa (λO Zz ZA=>?_);refine aS ?_;rw[Gh];refine cH (H':=af w (aB (bB p)) [own 215 8 (.slice (some ⟨O,0,none⟩) cols cols) cols (bK.all (List.replicate cols gZ)),aD Zo x.enc 144,aD p.g [.pointer (some ⟨p.r.g,0,none⟩),.slice p.s.A L.length p.s.c,.int .i64 (cols:Int),.slice none 0 0] 141,aR (cc t),own 144 2 (.slice p.s.A L.length p.s.c) L.length (cl.all L),aR (L.map bS.aF),lY.au ⟨none,0,[]⟩]) ?_ (Sub.refl _) (λy d=>d.ax ae);refine aS ?_;refine xG (E:=bK) (L:=List.replicate cols gZ) (src:=x.cells) (g:=O) (F:=λ_=>True) 0 (min x.cells.length cols) rfl dv rfl rfl rfl (λ_=>by rw[qT]) (by rw[hj];omega) cA (λZB o=>B5 (o.has kz) (da m)) ?_;refine aq ?_;obtain⟨R,P⟩ : ∃R,R=List.take 0 (List.replicate cols gZ)++List.take (min x.cells.length cols) x.cells++List.drop (0+min x.cells.length cols) (List.replicate cols gZ):=⟨_,rfl⟩;rw[←P];have V:R.length=cols:=by
    rw[P];simp only[b6,dl,fJ,hj];omega
   have Zp:gP R:=λc b=>by
    rw[P] at b
    rcases cZ.1 b with b | b
    ·rcases cZ.1 b with b | b
     ·simp at b
     ·exact Zn.2 c (iE b)
    ·rw[(uu.1 (lN b)).2];exact bP _
   refine eF [0,1,2,3,4,5] 2 [[(6,false,[7,8]),(9,true,[])]] (_) mixed ab (λ_ Q=>Q.drew) (λ_ h=>(show af _ _ [aD p.g [.pointer (some ⟨p.r.g,0,none⟩),.slice p.s.A L.length p.s.c,.int .i64 (cols:Int),.slice none 0 0] 141] _ from h.ax ae)) ?_;refine aK ?_;refine gp (ι:=Option Addr × Nat) rfl z_ rfl (λn b=>Y_ n _ (some ⟨O,0,none⟩) cols cols R (aaa (b.has aT) V) aa) (λ⟨B,C⟩ _=>?_);refine b3 (λ_=>True) (λ_ h=> .inr (h.ax ae)) (λ_ h=>a1) ?_;refine ar ?_;refine aL rfl (λZg Zh=>(bC (q:=i) dK rfl rfl rfl H rfl aa aG)) ?_;refine aq ?_;refine uf (E:=cl) (e:=144) (A:=p.s.A) (c:=p.s.c) (L:=L) (g:=gs) (q:=i) (a:=(⟨B,C,false,cT id R⟩ :bS)) gV rfl rfl H aa sP ?_;refine aJ ?_;refine bi (i+1,L.set i (⟨B,C,false,cT id R⟩ :bS)) ⟨by dsimp only;omega,by rw[gc],λy d=>?_,λj y I d=>?_⟩ bm (ip rfl rfl rfl rfl rfl rfl) (λ_ h=>?_)
   ·exact (r_ d).elim (λh=>G y h) (λh=>by rw[h];exact⟨by show (cT id R).length≤_;rw[AZ (f:=id) (λ_=>rfl)];omega,Hb (f:=id) (λ_=>rfl) (λ_ h=>h) Zp⟩)
   ·exact (Nat.lt_or_eq_of_le (Nat.le_of_lt_succ I)).elim (λh=>by rw[jA aa] at d;exact N j y h d) (λh=>by subst h;rw[List.getElem?_set_self aa] at d;cases d;show (cT id R).length=_;rw[AZ (f:=id) (λ_=>rfl)];exact V)
   ·simp only[Mq.au,gc] at h
    have o:=h.ax (l:=[aR (L.map bS.aF),(⟨B,C,false,cT id R⟩ :bS).aF,aD p.g [.pointer (some ⟨p.r.g,0,none⟩),.slice p.s.A L.length p.s.c,.int .i64 (cols:Int),.slice none 0 0] 141,aR (cc t),own 144 2 (.slice p.s.A L.length p.s.c) L.length (cl.all (L.set i (⟨B,C,false,cT id R⟩ :bS))),lY.au ⟨none,0,[]⟩]) ae
    have J:=o.pick (k:=i) (c:=x.aF) (by rw[eD,m];rfl)
    have Zq:=(J.perm (List.Perm.swap _ _ _)).ax (l:=[(⟨B,C,false,cT id R⟩ :bS).aF,aR ((L.map bS.aF).eraseIdx i),aD p.g [.pointer (some ⟨p.r.g,0,none⟩),.slice p.s.A L.length p.s.c,.int .i64 (cols:Int),.slice none 0 0] 141,aR (cc t),own 144 2 (.slice p.s.A L.length p.s.c) L.length (cl.all (L.set i (⟨B,C,false,cT id R⟩ :bS))),lY.au ⟨none,0,[]⟩]) ae
    have W:=Zq.J8 (by rw[cB];omega)
    rw[←oo] at W
    exact W.ax ae
  ·have ZC:i=K:=by omega
   subst M;have Zr:t.g=p.r.g:=U.1
   refine al ?_;refine cH (H':=af w (aB (bB p)) (bB (⟨p.g,t,⟨p.s.A,p.s.c,L⟩,(cols:Int),⟨none,0,[]⟩⟩ :bq))) ?_ (Sub.refl _) (λy d=>by simp only[bB,bq.an,nH,Zr];exact d.ax ae);refine ah ?_;refine a6 (l0:=bB (⟨p.g,t,⟨p.s.A,p.s.c,L⟩,(cols:Int),⟨none,0,[]⟩⟩ :bq)) ae rfl zZ rfl (λn b=>B6 n (⟨p.g,t,⟨p.s.A,p.s.c,L⟩,(cols:Int),⟨none,0,[]⟩⟩ :bq) (b.bo ae) rows aa bm) (λy d=>?_);refine aJ ?_;intro ZD Q;exact aN (⟨p.g,t,y,(cols:Int),⟨none,0,[]⟩⟩ :bq) (aab (L:=L) U d (λz S=>G z S) (λj z I S=>N j z aa S) aa Z Za) Q
theorem la.fw {ι:Type} {v:ι→Value} {c:Chunk} {c':ι→Chunk} {ok:ι→Prop} {w w':World} {e:Ending} (h:la v c c' ok w e w'):aP v [c] (λi=>[c' i]) ok w e w':=by
 obtain⟨i,hi,rfl,g,ai,j,l⟩:=h;have a:aB [c]=c.ch:=by simp[aB]
 have b:aB [c' i]=(c' i).ch:=by simp[aB]
 refine⟨i,hi,rfl,a▸g,b▸l,λd ak=>?_,λk f m=>?_⟩;rw[eb] at ak;subst ak;exact ai
 rw[b] at f
 rw[a];rcases j k f with h | h
 exact h;omega
abbrev mw (s:bl) (q:bq) (cols:Nat) (j:cN.fa) (y x:Int):bl:={ s with ap:=q,st:=⟨s.st.g,cN.jo s.st.bs cols,j⟩,y:=y,x:=x }
theorem DA {s z:bl} {q:bq} {cols:Nat} {j:cN.fa} {y x rows:Int} (c:c7 q.abs) (d: (q.s.l.length:Int)=rows) (h:q.cols=(cols:Int)) (i:1≤rows∧rows≤100) (k:2≤cols∧cols≤100) (m:0≤y∧y<rows) (n:0≤x∧x≤(cols:Int)) (o:q.r.room≤100) (a:hX (mw s q cols j y x) (vn (mw s q cols j y x).abs) z):
 z.g=s.g∧dU z∧z.ap.r.room=q.r.room∧z.ap.bf.l=q.bf.l:=by
 have b:z.ap.abs=q.abs:=aU (λt:be=>t.bD) a.abs
 have p:z.ap.s.l.length=q.s.l.length:=by
  have:=aU (λt:b0=>t.cG.length) b
  simpa [bq.abs] using this
 have u:z.ap.cols=q.cols:=aU (λt:b0=>t.cols) b
 have e:z.ap.r.room=q.r.room:=aU (λt:b0=>t.room) b
 have f:z.ap.bf.l=q.bf.l:=aU (λt:b0=>t.gi) b
 have v: ((b5 q.s.l).length:Int)=rows:=by rw[cB];exact d
 refine⟨a.g,⟨a.wf,?_,aa,aa,aa⟩,e,f⟩;rw[a.abs];refine⟨c,?_,?_,?_⟩;show 0≤y∧y<((b5 q.s.l).length:Int)
 omega
 show 0≤x∧x≤q.cols
 omega
 show (0 :Int)≤0∧(0 :Int)≤((b5 q.s.l).length:Int) - 1∧((b5 q.s.l).length:Int) - 1<((b5 q.s.l).length:Int)
 omega
theorem DB {s:bl} {q:bq} {cols:Nat} {j:cN.fa} {y x:Int} (a:cX q.r) (b:q.cols=(cols:Int)) (c:cN.hW (cN.jo s.st.bs cols) j):dR (mw s q cols j y x):=⟨a,c,by show ((cN.jo s.st.bs cols).length:Int)=q.cols;rw[cN.qg];exact b.symm⟩
theorem Ly [Inhabited bO] (w:World) (s:bl) (k:a8 w (aO s)) (d:dU s) (rows:Int) (cols:Nat) (m:1≤rows∧rows≤100) (e:2≤cols∧cols≤100):Calls prog 86 [ptr s.g,.int .i64 rows,.int .i64 (cols:Int)].toArray w
 (aP (λ_:bl=> .int .i64 0) (aO s) aO (λz=>z.g=s.g∧dU z∧z.ap.r.room=s.ap.r.room∧z.ap.bf.l.length=0) w):=by
 have B:=d.ok.y
 have C:=d.ok.x
 have D:s.abs.y=s.y:=rfl
 have E:s.abs.x=s.x:=rfl
 have F:s.abs.cols=s.ap.cols:=rfl
 have G:s.abs.rows=(s.ap.s.l.length:Int):=by show ((b5 s.ap.s.l).length:Int)=_;rw[cB]
 have H:=d.small
 refine bI func86 ntmps86 k ?_;refine aJ ?_;refine ao rfl kw rfl (λb e=>kI b s (e.has aT)) ?_;refine aq ?_;refine a6 (l0:=bB s.ap) ae rfl NB rfl (λb o=>aac b s.ap (o.bo ae) d.g.r d.ok.bD rows cols m ⟨e.1,aa⟩) (λq a=>?_);refine bH ?_;refine eF [0,1,2,3,4,6,7,9,10,11,13] 4 [[(5,false,[8]),(12,false,[14,15,16]),(17,false,[18,19]),(20,false,[])],[(12,false,[14]),(5,false,[8,15,16]),(17,false,[18,19]),(20,false,[])]] (_) mixed ab (λ_ f=>f.drew) (λ_ h=>h.ext.size) ?_;refine bx ?_;refine F5 ?_ ?_;refine ar ?_;refine b3 (λ_=>True) (λ_ h=> .inr h.ext.size) (λ_ h=>a1) ?_;refine aS ?_;refine b3 (λ_=>True) (λ_ h=> .inr ⟨.inr h.ext.size,dp⟩) (λ_ h=>a1) ?_;refine al ?_;refine b3 (λ_=>True) (λ_ h=> .inr ⟨.inr ⟨.inr h.ext.size,dp⟩,dp⟩) (λ_ h=>a1) ?_;refine ay ?_;refine b3 (λ_=>True) (λ_ h=> .inr ⟨.inr ⟨.inr ⟨.inr h.ext.size,dp⟩,dp⟩,dp⟩) (λ_ h=>a1) ?_;refine aQ ?_;refine a6 (l0:=[s.st.aF]) ae rfl w1 rfl (λb o=>(cN.p5 b s.st.g s.st.bs s.st.i d.g.st (o.has e4) (tU k) cols ⟨e.1,aa⟩).mono (λ_ _ h=>h.fw)) (λj n=>?_);refine ah ?_;refine cH (H':=af w (aB (aO s)) (aO (mw s q cols j (min s.y (rows - 1)) (min s.x (cols:Int))))) ?_ (Sub.refl _) (λu p=>by have t:=a.g;simp only[aO,bl.an,eZ,mw,t,tc.aF,cN.qg];exact p.ax ae);refine aq ?_;refine a6 (l0:=aO (mw s q cols j (min s.y (rows - 1)) (min s.x (cols:Int)))) ae rfl zY rfl (λb o=>vo b _ (o.bo ae) (DB a.r a.wd n) a.P) (λz v=>?_);refine aJ ?_;intro A f;have c:=DA a.P a.high a.wd m e ⟨aa,aa⟩ ⟨aa,aa⟩ (by rw[a.room];omega) v
 exact aN z ⟨c.1,c.2.1,c.2.2.1.trans a.room,by rw[c.2.2.2,a.bf];rfl⟩ f;refine ar ?_;refine b3 (λ_=>True) (λ_ h=> .inr h.ext.size) (λ_ h=>a1) ?_;refine aS ?_;refine b3 (λ_=>True) (λ_ h=> .inr ⟨.inr h.ext.size,dp⟩) (λ_ h=>a1) ?_;refine al ?_;refine b3 (λ_=>True) (λ_ h=> .inr ⟨.inr ⟨.inr h.ext.size,dp⟩,dp⟩) (λ_ h=>a1) ?_;refine ay ?_;refine b3 (λ_=>True) (λ_ h=> .inr ⟨.inr ⟨.inr ⟨.inr h.ext.size,dp⟩,dp⟩,dp⟩) (λ_ h=>a1) ?_;refine aQ ?_;refine a6 (l0:=[s.st.aF]) ae rfl w1 rfl (λb o=>(cN.p5 b s.st.g s.st.bs s.st.i d.g.st (o.has e4) (tU k) cols ⟨e.1,aa⟩).mono (λ_ _ h=>h.fw)) (λj n=>?_);refine ah ?_;refine cH (H':=af w (aB (aO s)) (aO (mw s q cols j (min s.y (rows - 1)) (min s.x (cols:Int))))) ?_ (Sub.refl _) (λu p=>by have t:=a.g;simp only[aO,bl.an,eZ,mw,t,tc.aF,cN.qg];exact p.ax ae);refine aq ?_;refine a6 (l0:=aO (mw s q cols j (min s.y (rows - 1)) (min s.x (cols:Int)))) ae rfl zY rfl (λb o=>vo b _ (o.bo ae) (DB a.r a.wd n) a.P) (λz v=>?_);refine aJ ?_;intro A f;have c:=DA a.P a.high a.wd m e ⟨aa,aa⟩ ⟨aa,aa⟩ (by rw[a.room];omega) v
 exact aN z ⟨c.1,c.2.1,c.2.2.1.trans a.room,by rw[c.2.2.2,a.bf];rfl⟩ f
theorem Lz (w:World) (s:bl) (c:a8 w (aO s)) (rows cols:Int) (d: ¬((1≤rows∧rows≤1000)∧2≤cols∧cols≤1000)) (v:Value):Calls prog 85 [ptr s.g,.int .i64 rows,.int .i64 cols,v].toArray w
 (aP (λ_:Unit=> .tuple #[.slice none 0 0,.int .i64 1]) (aO s) (λ_=>aO s) (λ_=>True) w):=by
 refine bI func85 ntmps85 c ?_;refine aJ ?_;refine ao rfl kw rfl (λa b=>kI a s (b.has aT)) ?_;refine ah ?_;refine ao rfl jf rfl (λa b=>ju a s (b.has aT)) ?_;refine kd (t:=35) (off:=0) ab eg rfl rfl rfl ?_;refine ar ?_;refine cJ (λa o=>Y2 a s.ap o rows cols d ⟨s.y,s.x⟩ v) (λq _=>?_);refine ay ?_;intro f h i;refine oP ?_;intro j e;exact aN () a1 e
theorem LA [Inhabited bO] (w:World) (s:bl) (E:a8 w (aO s)) (f:dU s) (rows:Int) (cols:Nat) (G:1≤rows∧rows≤100) (b:2≤cols∧cols≤40) (F:Nat→Prop) (v:Option Addr) (m d:Nat) (l:List aY) (ai:Rd cf w F v m d l) (H: ∀k,F k→k∉aB (aO s)) (K:m≤100000):
 Calls prog 85 [ptr s.g,.int .i64 rows,.int .i64 (cols:Int),.slice v m d].toArray w
 (aP (λi:ee × bl=> .tuple #[wA i.1,.int .i64 0]) (aO s) (λi=>aO i.2++[i.1.au]) (λi=>i.2.g=s.g∧dU i.2∧i.2.ap.r.room=s.ap.r.room∧i.2.ap.bf.l.length≤1∧i.1.l.length=m+1) w):=by
 have W:=f.ok.y
 have X:=f.ok.x
 have Y:s.abs.y=s.y:=rfl
 have Z:s.abs.x=s.x:=rfl
 have Za:s.abs.cols=s.ap.cols:=rfl
 have Zb:s.abs.rows=(s.ap.s.l.length:Int):=by show ((b5 s.ap.s.l).length:Int)=_;rw[cB]
 have L:=f.small
 have M: ∀k,k∈aB (bB s.ap)→k∈aB (aO s):=λk n=>by
  obtain⟨c,b,N⟩:=e_.1 n;exact e_.2 ⟨c,by simp only[e1,List.not_mem_nil,or_false] at b ⊢;rcases b with h | h | h | h | h <;> simp[h],N⟩
 refine bI func85 ntmps85 E ?_;refine aJ ?_;refine ao rfl kw rfl (λe b=>kI e s (b.has aT)) ?_;refine ah ?_;refine ao rfl jf rfl (λe b=>ju e s (b.has aT)) ?_;refine kd (t:=35) (off:=0) ab eg rfl rfl rfl ?_;refine ar ?_;refine a6 (l0:=bB s.ap) ae rfl NA rfl (λe o=>Y7 e s.ap (o.bo ae) f.g.r f.ok.bD L rows cols G b ⟨s.y,s.x⟩ bm (λk=>F k∧k<w.heap.size) v m d l ((ai.hI aZ).ext o.ext (λk n=>H k n.1)) (λk n O=>H k n.1 (M k O)) K) (λ⟨⟨A,B⟩,C,q⟩ Q=>?_);refine ay ?_;intro R Zc Zd;refine dB ?_;refine eF [0,1,2,3,4,5,6,7] 2 [[(8,false,[9,10]),(11,false,[])]] (_) mixed ab (λ_ D=>D.drew) (λ_ h=>(show af _ _ [aD R _ 35] _ from h.ax ae)) ?_;refine bp ?_;refine b3 (λ_=>True) (λ_ h=> .inr (h.ax ae)) (λ_ h=>a1) ?_;refine ay ?_;refine b3 (λ_=>True) (λ_ h=> .inr ⟨.inr (h.ax ae),dp⟩) (λ_ h=>a1) ?_;refine aQ ?_;refine a6 (l0:=[s.st.aF]) ae rfl w1 rfl (λe o=>(cN.p5 e s.st.g s.st.bs s.st.i f.g.st (o.has PM) (tU E) cols ⟨b.1,aa⟩).mono (λ_ _ h=>h.fw)) (λj S=>?_);refine ah ?_;have a:Dy s.ap rows (cols:Int) m (⟨A,B⟩,C,q):=Q
 have I:=a.y
 have J:=a.x
 dsimp only at I J
 refine cH (H':=af w (aB (aO s)) (aO (mw s q cols j A B)++[C.au])) ?_ (Sub.refl _) (λu T=>by have U:q.g=s.ap.g:=a.g;simp only[aO,bl.an,eZ,mw,U,tc.aF,cN.qg];exact T.ax ae);refine aq ?_;refine a6 (l0:=aO (mw s q cols j A B)) ae rfl zY rfl (λe o=>vo e _ (o.bo ae) (DB a.r a.wd S) a.P) (λz V=>?_);refine bp ?_;intro Ze D;have p:=DA a.P a.high a.wd G ⟨b.1,aa⟩ I J (by rw[show q.r.room=s.ap.r.room from a.room];omega) V
 exact aN (C,z) ⟨p.1,p.2.1,p.2.2.1.trans a.room,by rw[p.2.2.2];exact a.bf,a.pl⟩ D
theorem aad [Inhabited bO] (w:World) (g par:Nat) (X:Chunk) (T:bL) (d:a8 w (bz g par X T)) (rows cols:Int) (f: ¬((1≤rows∧rows≤1000)∧2≤cols∧cols≤1000)) (v:Value):Calls prog 48 [ptr g,.int .i64 rows,.int .i64 cols,v].toArray w
 (aP (λ_:Unit=> .tuple #[.slice none 0 0,.int .i64 1]) (bz g par X T) (λ_=>bz g par X T) (λ_=>True) w):=by
 obtain⟨am,bk,use,b8,cm,bM,buf,aF⟩:=T;cases use
 refine bI func48 ntmps48 d ?_;refine aJ ?_;refine ao rfl pM rfl (λa b=>qp a g par _ (b.has aT)) ?_;refine ah ?_;refine cJ (λa o=>Calls.mono (Lz a am o.i7 rows cols f v) (λe w' h=>aP.star h)) (λ_ _=>?_);refine sQ ?_;intro i c;exact aN () a1 c;refine bI func48 ntmps48 d ?_;refine aJ ?_;refine ao rfl pM rfl (λa b=>qp a g par _ (b.has aT)) ?_;refine ah ?_;refine cJ (λa o=>Calls.mono (Lz a bk o.i7 rows cols f v) (λe w' h=>aP.star h)) (λ_ _=>?_);refine sQ ?_;intro i c;exact aN () a1 c
theorem af.ze {b w:World} {S:List Nat} {cs l:List Chunk} {c:Chunk} (h:af b S (aR (l++[c])::cs) w):af b S (aR l::c::cs) w:=by
 have a:=h.zc
 exact ((a.perm (List.Perm.swap _ _ _)).lb).perm (List.Perm.swap _ _ _)
theorem aae [Inhabited bO] (w:World) (g par:Nat) (X:Chunk) (T:bL) (I:a8 w (bz g par X T)) {R:Int} {m:Nat} (b:cp g R m T) (rows:Int) (cols:Nat) (A:1≤rows∧rows≤100) (f:2≤cols∧cols≤40) (F:Nat→Prop) (B:Option Addr) (n d:Nat) (l:List aY) (ai:Rd cf w F B n d l) (C: ∀k,F k→k∉aB (bz g par X T)) (J:n≤100000):
 Calls prog 48 [ptr g,.int .i64 rows,.int .i64 (cols:Int),.slice B n d].toArray w
 (aP (λi:ee × bL=> .tuple #[wA i.1,.int .i64 0]) (bz g par X T) (λi=>i.1.au::bz g par X i.2) (λi=>cp g R (m+1) i.2∧i.1.l.length=n+1) w):=by
 obtain⟨am,bk,use,b8,cm,bM,buf,aF⟩:=T;have K:=b.buf
 dsimp only at K
 cases use
 have D: ∀k,k∈aB (aO am)→k∈aB (bz g par X ⟨am,bk,false,b8,cm,bM,buf,aF⟩):=λk j=>e_.2 ⟨aR (aO am),by simp,j⟩
 refine bI func48 ntmps48 I ?_;refine aJ ?_;refine ao rfl pM rfl (λp f=>qp p g par _ (f.has aT)) ?_;refine ah ?_;refine a6 (l0:=[aR (aO am)]) (v:=λi:ee × bl=> .tuple #[wA i.1,.int .i64 0]) (l':=λi=>[aR (aO i.2++[i.1.au])]) (ok:=λi=>i.2.g=am.g∧dU i.2∧i.2.ap.r.room=am.ap.r.room∧i.2.ap.bf.l.length≤1∧i.1.l.length=n+1) ae rfl EF rfl (λp o=>Calls.mono (LA p am (o.bo ae).i7 b.am rows cols A f (λk=>F k∧k<w.heap.size) B n d l ((ai.hI aZ).ext o.ext (λk j=>C k j.1)) (λk j E=>C k j.1 (D k E)) J) (λe w' h=>aP.star h)) (λ⟨q,z⟩ s=>?_);refine eR ?_;refine cH (H':=af w (aB (bz g par X ⟨am,bk,false,b8,cm,bM,buf,aF⟩)) (q.au::bz g par X ⟨z,bk,false,b8,cm,bM,buf,aF⟩)) ?_ (Sub.refl _) (λx t=>by have u:z.g=am.g:=s.1;have G:=t.ze;simp only[bz,eN,pj,bL.b_,bL.dP,u];exact G.ax ae);refine aS ?_;refine ds (q:=1) underlying115 pL rfl rfl rfl bc aa ?_;refine ah ?_;refine a6 (l0:=[aR (aO bk)]) (v:=λ_:bl=> .int .i64 0) (l':=λi=>[aR (aO i)]) (ok:=λi=>i.g=bk.g∧dU i∧i.ap.r.room=bk.ap.r.room∧i.ap.bf.l.length=0) ae rfl EG rfl (λp o=>Calls.mono (Ly p bk (o.bo ae).i7 b.bk rows cols A ⟨f.1,aa⟩) (λe w' h=>aP.star h)) (λa y=>?_);refine ah ?_;refine cH (H':=af w (aB (bz g par X ⟨am,bk,false,b8,cm,bM,buf,aF⟩)) (q.au::bz g par X ⟨z,a,false,b8,cm,bM,buf,aF⟩)) ?_ (Sub.refl _) (λx t=>by have u:a.g=bk.g:=y.1;simp only[bz,eN,pj,bL.b_,bL.dP,u];exact t.ax ae);refine dB ?_;intro L H;exact aP.bQ (q,⟨z,a,false,b8,cm,bM,buf,⟨none,0,[]⟩⟩) ⟨⟨s.2.1,y.2.1,s.2.2.1.trans b.room,b.bM,b.cm,by have M:z.ap.bf.l.length≤1:=s.2.2.2.1;have N:=y.2.2.2;show z.ap.bf.l.length+a.ap.bf.l.length+0≤m+1;omega,by dsimp only;omega,λc f=>(by cases f),b.md⟩,s.2.2.2.2⟩ rfl ((H.eU 182 lw).ax ae);have D: ∀k,k∈aB (aO bk)→k∈aB (bz g par X ⟨am,bk,true,b8,cm,bM,buf,aF⟩):=λk j=>e_.2 ⟨aR (aO bk),by simp,j⟩
 refine bI func48 ntmps48 I ?_;refine aJ ?_;refine ao rfl pM rfl (λp f=>qp p g par _ (f.has aT)) ?_;refine ah ?_;refine a6 (l0:=[aR (aO bk)]) (v:=λi:ee × bl=> .tuple #[wA i.1,.int .i64 0]) (l':=λi=>[aR (aO i.2++[i.1.au])]) (ok:=λi=>i.2.g=bk.g∧dU i.2∧i.2.ap.r.room=bk.ap.r.room∧i.2.ap.bf.l.length≤1∧i.1.l.length=n+1) ae rfl EF rfl (λp o=>Calls.mono (LA p bk (o.bo ae).i7 b.bk rows cols A f (λk=>F k∧k<w.heap.size) B n d l ((ai.hI aZ).ext o.ext (λk j=>C k j.1)) (λk j E=>C k j.1 (D k E)) J) (λe w' h=>aP.star h)) (λ⟨q,z⟩ s=>?_);refine eR ?_;refine cH (H':=af w (aB (bz g par X ⟨am,bk,true,b8,cm,bM,buf,aF⟩)) (q.au::bz g par X ⟨am,z,true,b8,cm,bM,buf,aF⟩)) ?_ (Sub.refl _) (λx t=>by have u:z.g=bk.g:=s.1;have G:=t.ze;simp only[bz,eN,pj,bL.b_,bL.dP,u];exact G.ax ae);refine aS ?_;refine ds (q:=1) underlying115 pL rfl rfl rfl bc aa ?_;refine ah ?_;refine a6 (l0:=[aR (aO am)]) (v:=λ_:bl=> .int .i64 0) (l':=λi=>[aR (aO i)]) (ok:=λi=>i.g=am.g∧dU i∧i.ap.r.room=am.ap.r.room∧i.ap.bf.l.length=0) ae rfl EG rfl (λp o=>Calls.mono (Ly p am (o.bo ae).i7 b.am rows cols A ⟨f.1,aa⟩) (λe w' h=>aP.star h)) (λa y=>?_);refine ah ?_;refine cH (H':=af w (aB (bz g par X ⟨am,bk,true,b8,cm,bM,buf,aF⟩)) (q.au::bz g par X ⟨a,z,true,b8,cm,bM,buf,aF⟩)) ?_ (Sub.refl _) (λx t=>by have u:a.g=am.g:=y.1;simp only[bz,eN,pj,bL.b_,bL.dP,u];exact t.ax ae);refine dB ?_;intro L H;exact aP.bQ (q,⟨a,z,true,b8,cm,bM,buf,⟨none,0,[]⟩⟩) ⟨⟨y.2.1,s.2.1,s.2.2.1.trans b.room,b.bM,b.cm,by have M:z.ap.bf.l.length≤1:=s.2.2.2.1;have N:=y.2.2.2;show a.ap.bf.l.length+z.ap.bf.l.length+0≤m+1;omega,by dsimp only;omega,λc f=>(by cases f),b.md⟩,s.2.2.2.2⟩ rfl ((H.eU 182 lw).ax ae)
theorem LB {α:Type} {E:bA α} {b w:World} {S:List Nat} {cs cs' f l2:List Chunk} {e:TypeId} {A:Option Addr} {c:Nat} {L:List α} (h:af b S cs w) (d:bw cs (au e E A c L) cs') (g:aA cs' l2 f):Rd E w (λk=>k∉aB l2) A L.length c L:=by
 have i:=h.perm d.perm
 have ak: ∀k,k∈aB [au e E A c L]→k∉aB l2:=λk a=>h.zd (aA.cons d aA.nil) g a
 obtain⟨dG,c9,j,l⟩:=Rd.gf (E:=E) (show w.ownsRow 0 e E.sz (.slice A L.length c) L.length (E.all L) from i.has Has.head) rfl;injection j with m _ n
 subst m n;exact l.dC (λk a=>ak k (by rw[show aB [au e E A c L]=(au e E A c L).ch by simp[aB]];exact jb.2 a))
theorem LC [Inhabited bO] {α:Type} {E:bA α} {b w:World} {S:List Nat} {cs cs' a l2:List Chunk} {e:TypeId} {A:Option Addr} {c:Nat} {L:List α} (h:af b S cs w) (d:bw cs (au e E A c L) cs') (f:bw cs' (aR l2) a):Rd E w (λk=>k∉aB l2) A L.length c L:=
 (LB h d (aA.cons f aA.nil)).dC (λk g=>by rwa [show aB [aR l2]=aB l2 by simp[aB,aR]] at g)
theorem LD {s:cO} {N:Int} (h:fP s N): (wa s.abs.blocks).length≤40000:=by
 have b:=h.len
 have a:=Ku h.br s.l.length
 rw[ow] at a
 show (wa (s.l.map bb.abs)).length≤_
 rw[Kt];omega
theorem aaf [Inhabited bO] (w:World) (s:bV) {m:Nat} {N:Int} (k:cQ s m N) (q:a8 w [cn s]) (rows cols:Int) (r: ¬((1≤rows∧rows≤1000)∧2≤cols∧cols≤1000)):Calls prog 19 [ptr s.g,.int .i64 rows,.int .i64 cols].toArray w (aP (λ_:Unit=> .int .i64 1) [cn s] (λ_=>[cn s]) (λ_=>True) w):=by
 obtain⟨g,top,dm,cb,p,T,st,cY,dq,es,ck⟩:=s;have b:=k.st
 have d:=k.cY
 dsimp only at b d
 have A:=b.len
 have t:=LD b
 have B:=d.len
 have C:=d.most
 refine calls (n:=57) func19 rfl ntmps19 rfl ?_;refine cH (H':=af w (aB [cn ⟨g,top,dm,cb,p,T,st,cY,dq,es,ck⟩]) (cW ⟨g,top,dm,cb,p,T,st,cY,dq,es,ck⟩)) ?_ (Sub.refl _) (λx f=>by have h:=(q.start x f).open (l:=cW ⟨g,top,dm,cb,p,T,st,cY,dq,es,ck⟩) bj;rwa [eu] at h);refine hr ?_;refine a6 (l0:=[]) aA.nil rfl zN rfl (λa i=>Db a st ((i.has (c:=aR (cV st)) cr) _ av) ((i.has (c:=aR (cV st)) cr) _ av) ((i.has (c:=aR (cV st)) cr) _ av) b.br aa) (λz u=>?_);refine aS ?_;have D:z.l.length≤40000:=by rw[u];exact t
 refine aC ?_;refine eF [0,1,2,3,4,5,6,7,8,9,10] 3 [[(11,false,[]),(12,false,[]),(13,true,[14,15,16,17,18])]] (_) mixed ab (λ_ j=>j.drew) (λ_ h=>(show af _ _ [bV.an ⟨g,top,dm,cb,p,T,st,cY,dq,es,ck⟩] _ from h.ax ae)) ?_;refine bH ?_;refine cJ (λa o=>Calls.mono (J5 a cY o.i7 d) (λe w' h=>aP.star h)) (λy v=>?_);refine b3 (λ_=>True) (λ_ h=> .inr (h.ax ae)) (λ_ h=>a1) ?_;refine aq ?_;have F:y.l.length≤10000:=by rw[v];omega
 refine gR (H':=af w (aB [cn ⟨g,top,dm,cb,p,T,st,cY,dq,es,ck⟩]) (y.au::z.au::cW ⟨g,top,dm,cb,p,T,st,cY,dq,es,ck⟩)) ?_ (Sub.refl _) (λx f=>f.ze.ax ae);refine eC (E:=cf) dD rfl rfl rfl bj (λ_ _=>cA) b4 aa (λG H=>?_);refine b3 (λ_=>True) (λ_ h=> .inr ⟨.inr (h.ax ae),dp⟩) (λ_ h=>a1) ?_;refine aq ?_;refine ld (lc:=fo p cb p.g T) p0<| a6 (l0:=bz cb p.g ei T) ae rfl Ev rfl (λa o=>aad a cb p.g ei T (o.bo ae) rows cols r _) (λ_ _=>?_)
 refine lV ?_;intro I j;exact aP.bQ () a1 rfl (((j.close (l:=fo p cb p.g T) ae).close (l:=cW ⟨g,top,dm,cb,p,T,st,cY,dq,es,ck⟩) ae).ax ae)
theorem aag [Inhabited bO] (w:World) (s:bV) {m:Nat} {N:Int} (f:cQ s m N) (K:a8 w [cn s]) (Y:m≤800000000000) (Z:N≤800000000000000) (rows:Int) (cols:Nat) (M:1≤rows∧rows≤100) (j:2≤cols∧cols≤40):Calls prog 19 [ptr s.g,.int .i64 rows,.int .i64 (cols:Int)].toArray w (aP (λ_:bV=> .int .i64 0) [cn s] (λi=>[cn i]) (λi=>i.g=s.g∧cQ i (m+1) (N+(m+1 :Nat))∧i.ap.r.room=s.ap.r.room) w):=by
 obtain⟨g,top,dm,cb,p,T,st,cY,dq,es,ck⟩:=s;have t:=f.st
 have B:=f.cY
 dsimp only at t B
 have Za:=t.len
 have O:=LD t
 have Zb:=B.len
 have Zc:=B.most
 refine calls (n:=57) func19 rfl ntmps19 rfl ?_;refine cH (H':=af w (aB [cn ⟨g,top,dm,cb,p,T,st,cY,dq,es,ck⟩]) (cW ⟨g,top,dm,cb,p,T,st,cY,dq,es,ck⟩)) ?_ (Sub.refl _) (λx d=>by have h:=(K.start x d).open (l:=cW ⟨g,top,dm,cb,p,T,st,cY,dq,es,ck⟩) bj;rwa [eu] at h);have H:=f.Dw rfl
 dsimp only at H
 refine hr ?_;refine a6 (l0:=[]) aA.nil rfl zN rfl (λa j=>Db a st ((j.has (c:=aR (cV st)) cr) _ av) ((j.has (c:=aR (cV st)) cr) _ av) ((j.has (c:=aR (cV st)) cr) _ av) t.br aa) (λz P=>?_);refine aS ?_;have Zd:z.l.length≤40000:=by rw[P];exact O
 refine aC ?_;refine eF [0,1,2,3,4,5,6,7,8,9,10] 3 [[(11,false,[]),(12,false,[]),(13,true,[14,15,16,17,18])]] (_) mixed ab (λ_ C=>C.drew) (λ_ h=>(show af _ _ [bV.an ⟨g,top,dm,cb,p,T,st,cY,dq,es,ck⟩] _ from h.ax ae)) ?_;refine bH ?_;refine cJ (λa o=>Calls.mono (J5 a cY o.i7 B) (λe w' h=>aP.star h)) (λy Q=>?_);refine b3 (λ_=>True) (λ_ h=> .inr (h.ax ae)) (λ_ h=>a1) ?_;refine aq ?_;have Ze:y.l.length≤10000:=by rw[Q];omega
 refine gR (H':=af w (aB [cn ⟨g,top,dm,cb,p,T,st,cY,dq,es,ck⟩]) (y.au::z.au::cW ⟨g,top,dm,cb,p,T,st,cY,dq,es,ck⟩)) ?_ (Sub.refl _) (λx d=>d.ze.ax ae);refine eC (E:=cf) dD rfl rfl rfl bj (λ_ _=>cA) b4 aa (λZf Zg=>?_);refine b3 (λ_=>True) (λ_ h=> .inr ⟨.inr (h.ax ae),dp⟩) (λ_ h=>a1) ?_;refine aq ?_;refine ld (lc:=fo p cb p.g T) p0<| a6 (l0:=bz cb p.g ei T) ae rfl Ev rfl (λa o=>aae a cb p.g ei T (o.bo ae) H rows cols M j _ _ _ _ _ (LB (E:=cf) (e:=35) (L:=z.l++y.l) (l2:=bz cb p.g ei T) o Az ae) (λ_ h=>h) (by rw[b6];omega)) (λ⟨q,bu⟩ D=>?_)
 refine ey ?_;obtain⟨b,I⟩:=D;dsimp only at b I
 rw[b6] at I
 refine ah ?_;refine cH (H':=af w (aB [cn ⟨g,top,dm,cb,p,T,st,cY,dq,es,ck⟩]) (q.au::cW ⟨g,top,dm,cb,p,bu,st,cY,dq,es,ck⟩)) ?_ (Sub.refl _) (λx d=>(d.close (l:=fo p cb p.g bu) ae).ax ae);refine hE (e:=35) (sz:=2) (v:= .slice q.A q.l.length q.c) aT (λdG c9 R Zh _ _ _=>?_);injection R with S _ U
 subst S U;refine bF [0,1,2,3,4,5,6] 1 [[(7,true,[])]] ?_;refine al ?_;refine aL rfl (λV D=>(fz 0 z.l.length dD rfl rfl (.inr ⟨rfl,rfl⟩) (.inl ⟨_,_,rfl,rfl,rfl⟩) aa bm aG)) ?_;refine aq ?_;refine a6 (l0:=[aR (cV st)]) (v:=λi:Int × cO=> .int .i64 i.1) (l':=λi=>[aR (cV i.2)]) (ok:=λi=>i.2.g=st.g∧i.2.most=st.most∧fP i.2 N) ae rfl M1 rfl (λa o=>Calls.mono (Xy a st (o.bo ae).i7 t _ _ _ _ (((LC (E:=cf) (e:=35) (A:=q.A) (c:=q.c) (L:=q.l) (l2:=cV st) o bj p0).cut (p:=1) (q:=q.l.length) aa (bW _)).cut (p:=0) (q:=z.l.length) aa aa) aa) (λe w' h=>aP.star h)) (λi hi=>?_);refine ay ?_;refine cH (H':=af w (aB [cn ⟨g,top,dm,cb,p,T,st,cY,dq,es,ck⟩]) (q.au::cW ⟨g,top,dm,cb,p,bu,i.2,cY,dq,es,ck⟩)) ?_ (Sub.refl _) (λx d=>by have F:i.2.g=st.g:=hi.1;simp only[cW,bV.an,ud,F];exact d.ax ae);refine bF [0,1,2,3,4,5,6] 1 [[(7,true,[])]] ?_;refine al ?_;refine aL rfl (λV D=>(fz z.l.length (q.l.length - 1) dD rfl rfl (.inl ⟨_,_,rfl,rfl,rfl⟩) (.inr ⟨rfl,rfl⟩) aa bm aG)) ?_;refine aq ?_;refine a6 (l0:=[aR (gb cY)]) (v:=λi:Int × hz=> .int .i64 i.1) (l':=λi=>[aR (gb i.2)]) (ok:=λi=>vZ cY i.2) ae rfl M2 rfl (λa o=>Calls.mono (WF a cY (o.bo ae).i7 B _ _ _ _ (((LC (E:=cf) (e:=35) (A:=q.A) (c:=q.c) (L:=q.l) (l2:=gb cY) o bj oO).cut (p:=1) (q:=q.l.length) aa (bW _)).cut (p:=z.l.length) (q:=q.l.length - 1) aa aa) aa) (λe w' h=>aP.star h)) (λk J=>?_);refine ay ?_;refine cH (H':=af w (aB [cn ⟨g,top,dm,cb,p,T,st,cY,dq,es,ck⟩]) [cn ⟨g,top,dm,cb,p,bu,i.2,k.2,dq,es,ck⟩]) ?_ (Sub.refl _) (λx d=>by have F:k.2.g=cY.g:=J.g;have W:=d.ax (l:=cW ⟨g,top,dm,cb,p,bu,i.2,k.2,dq,es,ck⟩) (by simp only[cW,bV.an,ud,F];exact ae);exact (W.close (l:=cW ⟨g,top,dm,cb,p,bu,i.2,k.2,dq,es,ck⟩) ae).ax ae);have X:cQ ⟨g,top,dm,cb,p,bu,i.2,k.2,dq,es,ck⟩ (m+1) N:=⟨f.par,⟨b.am,b.bk,rfl,b.bM,b.cm,b.bf,b.buf,b.aF,b.md⟩,hi.2.2,J.ok,f.mp,f.top⟩
 refine aq ?_;refine a6 (l0:=[cn ⟨g,top,dm,cb,p,bu,i.2,k.2,dq,es,ck⟩]) ae rfl Es rfl (λa o=>Ll a _ X (o.bo ae) aa aa) (λu G=>?_);refine aJ ?_;intro Zi C;exact aN u ⟨G.g,G.ok,G.room.trans b.room⟩ C
theorem aah (w:World) (p q:aY):Calls prog 12 [d_ p,d_ q].toArray w (Pure (.bool (eA p q)) w):=by
 obtain⟨f,g⟩:=p;obtain⟨h,i⟩:=q;refine aV func12 ntmps12 ?_;refine ah ?_;intro j k l;refine ar ?_;intro m n o;refine bp ?_;refine aW 10 rfl (λb=>?_) (λb=>?_);have d:=aX b
 refine eR ?_;intro c a;exact⟨by dsimp only at *;congr 2;simp only[eA];(symm;apply bX;omega),a.ext⟩;have d:=bd b
 refine bx ?_;refine aW 16 rfl (λaH=>?_) (λaH=>?_);have e:=aX aH
 refine eR ?_;intro c a;exact⟨by dsimp only at *;congr 2;simp only[eA];(apply gQ.2;omega),a.ext⟩;have e:=bd aH
 refine bH ?_;intro c a;exact⟨by dsimp only at *;congr 2;simp only[eA];(symm;apply cg;omega),a.ext⟩
theorem aai (w:World) (a b c d e:Int) (g:0≤a∧a≤255) (h:0≤b∧b≤255) (i:0≤c∧c≤255) (ak:0≤d∧d≤255) (j:0≤e∧e≤255):Calls prog 18 [.agg [.int .u8 a,.int .u8 b,.int .u8 c,.int .u8 d,.int .u8 e].toArray].toArray w
 (Pure (.agg #[.int .i64 (1+a%10),.int .i64 (2+b%20),.int .i64 (c%20),.int .i64 (1+d%9),.int .i64 (1+e%9),.int .i64 60]) w):=by
 refine aV func18 ntmps18 ?_;refine ah ?_;intro k l m;refine ar ?_;intro n o p;refine al ?_;refine nl rfl rfl rfl aa aa ?_;refine aS ?_;refine nl rfl rfl rfl aa aa ?_;refine aS ?_;refine nl rfl rfl rfl aa aa ?_;refine ah ?_;refine nl rfl rfl rfl aa aa ?_;refine aS ?_;refine nl rfl rfl rfl aa aa ?_;refine aK ?_;intro q f;exact⟨rfl,f.ext⟩
theorem cQ.mono [Inhabited bO] {s:bV} {m a:Nat} {N b:Int} (h:cQ s m N) (c:m≤a) (d:N≤b):cQ s a b:=⟨h.par,h.T.mono c,h.st.mono d,h.cY,h.mp,h.top⟩
theorem aaj [Inhabited bO] (w:World) (s:bV) {m:Nat} {N:Int} (a:cQ s m N) (c:a8 w [cn s]) (d:m≤800000000000) (f:N≤800000000000000) (rows cols:Int) (k: (rows≤30∨1000<rows)∧(cols≤40∨1000<cols)):Calls prog 19 [ptr s.g,.int .i64 rows,.int .i64 cols].toArray w (aP (λi:Int × bV=> .int .i64 i.1) [cn s] (λi=>[cn i.2]) (λi=>i.2.g=s.g∧cQ i.2 (m+1) (N+(m+1 :Nat))) w):=by
 by_cases j: (1≤rows∧rows≤1000)∧2≤cols∧cols≤1000
 obtain⟨b,rfl⟩ : ∃b:Nat,cols=(b:Int):=⟨cols.toNat,aa⟩;exact Calls.mono (aag w s a c d f rows b aa aa) (λe w' h=>h.mono (λi hi=>⟨(0,i),⟨hi.1,hi.2.1⟩,rfl,rfl⟩));exact Calls.mono (aaf w s a c rows cols j) (λe w' h=>h.mono (λi _=>⟨(1,s),⟨rfl,a.mono aa aa⟩,rfl,rfl⟩))
theorem aak [Inhabited bO] (w:World) (s:bV) {m:Nat} {N:Int} (h:cQ s m N) (q:a8 w [cn s]) (I:m≤90000000000) (J:N≤700000000000000) (k a b:Int) (S:List UInt8) (K:S.length≤400) (r: -9223372036854775808≤a∧a≤9223372036854775807) (t:k=1→(a≤30∨1000<a)∧(b≤40∨1000<b)):Calls prog 7 [ptr s.g,.agg [.int .i64 k,.int .i64 a,.int .i64 b,.string (bs S)].toArray].toArray w
 (aP (λ_:bV=> .tuple #[]) [cn s] (λi=>[cn i]) (λi=>i.g=s.g∧cQ i (m+8000000*S.length+1) (N+(m+8000000*S.length+1 :Nat))) w):=by
 refine bI func7 ntmps7 q ?_;refine ah ?_;intro L M O;refine cF ?_;refine aj (λu=>?_) (λu=>?_);refine aS ?_;refine Os.Ji underlying9 underlying51 underlying5 rfl rfl aa (λcd x P Q y z=>?_);refine a6 (l0:=[cn s]) ae rfl Eo rfl (λd o=>Ln d s h (o.bo ae) aa aa (some ⟨cd,0,none⟩) S.length x S ((Os.Rd.Jh (E:=cz) o (g:=cd) (e:=5) aT y z).dC (λk A=>by subst A;exact o.zd (l:=[Os.jw k 5 (cz.all S)]) (l2:=[cn s]) ae ae (by simp[aB,Os.jw]))) aa) (λB p=>?_);refine ah ?_;intro j c;exact aN B ⟨p.g,p.ok.mono aa aa⟩ c;refine al ?_;refine aj (λaH=>?_) (λaH=>?_);refine al ?_;refine a6 (l0:=[cn s]) ae rfl MP rfl (λd o=>aaj d s h (o.bo ae) aa aa a b (t aa)) (λn f=>?_);refine ah ?_;intro j c;exact aN n.2 ⟨f.1,f.2.mono aa aa⟩ c;refine al ?_;refine aj (λC=>?_) (λC=>?_);refine aS ?_;refine dn rfl rfl underlying3 underlying54 rfl ?_;refine ah ?_;refine a6 (l0:=[cn s]) (v:=λi:Int × bV=> .int .i64 i.1) (l':=λi=>[cn i.2]) (ok:=λi=>i.2.g=s.g∧cQ i.2 m N) ae rfl MQ rfl (λd o=>YH d s h (o.bo ae) _ _) (λn f=>?_);refine ah ?_;intro j c;exact aN n.2 ⟨f.1,f.2.mono aa aa⟩ c;refine al ?_;refine aj (λD=>?_) (λD=>?_);refine al ?_;refine cJ (λd o=>YG d s h o a b r) (λn f=>?_);refine ah ?_;intro j c;exact aN n.2 ⟨f.1,f.2.mono aa aa⟩ c;refine al ?_;refine aj (λF=>?_) (λF=>?_);refine aS ?_;refine cJ (λd o=>YE d s h o a) (λn f=>?_);refine ah ?_;intro j c;exact aN n.2 ⟨f.1,f.2.mono aa aa⟩ c;refine al ?_;refine aj (λG=>?_) (λG=>?_);refine al ?_;refine a6 (l0:=[cn s]) ae rfl El rfl (λd o=>Lj d s h (o.bo ae) S aa a) (λR _=>?_);refine ah ?_;intro j c;exact aN s ⟨rfl,h.mono aa aa⟩ c;refine al ?_;refine aj (λH=>?_) (λH=>?_);refine aS ?_;refine dn rfl rfl underlying3 underlying54 rfl ?_;refine aq ?_;refine a6 (l0:=[cn s]) ae rfl Ep rfl (λd o=>Li d s h (o.bo ae) _ b) (λ_ _=>?_);refine ah ?_;intro j c;exact aN s ⟨rfl,h.mono aa aa⟩ c;refine ah ?_;intro j c;exact aN s ⟨rfl,h.mono aa aa⟩ c
end Go.Proofs.YtlgnfdodnhokjaaGreatDoor.Mq
