/- part 15 of the proof -/
import Derived.Test.YtlgnfdodnhokjaaGreatDoorQ14
namespace Go.Proofs.YtlgnfdodnhokjaaGreatDoor.Mq
open Go Go.RowKit Go.Proofs Tryz
theorem GY {b w:World} {S:List Nat} {cs cs':List Chunk} {r r':dj} {k:Nat} {z g:bS} {xs:List Value} (a:r.s.l[k]? = some z) (d:r'.s.A=r.s.A) (f:r'.s.c=r.s.c) (h:r'.s.l=r.s.l.set k g) (i:xs=cl.all (r.s.l.set k g)) (j:af b S cs w)
 (m:aA cs [g.aF,r.s.b9,aD r'.g [r.s.val,.int .i64 r'.room,.int .i64 r'.first,.int .i64 r'.n,.int .u64 r'.gone] 208,own 144 2 r.s.val r.s.l.length xs] cs'):af b S (cc r') w:=by
 have o:=j.ax m
 have aH:=o.AS (k:=k) (c:=z.aF) (by simp[a])
 have e:cc r'=[aD r'.g [r.s.val,.int .i64 r'.room,.int .i64 r'.first,.int .i64 r'.n,.int .u64 r'.gone] 208,own 144 2 r.s.val r.s.l.length xs,aR ((r.s.l.map bS.aF).set k g.aF)]:=by
  subst i;simp only[cc,dj.an,AT,de.val,de.au,de.b9,d,f,h,gc,oo]
 rw[e];exact aH.ax ae
theorem af.Ri {b w:World} {S:List Nat} {cs:List Chunk} (h:af b S cs w):af b S (jm.aF::cs) w:=h.nj ⟨rfl,.inl ⟨rfl,rfl⟩⟩ rfl
theorem Rj (w:World) (r:dj) (e:a8 w (cc r)) (a:cX r) (A:1≤r.n):Calls prog 355 [ptr r.g].toArray w (aP (λg:bS=> .agg g.enc.toArray) (cc r) (λ_=>cc (kE r)) (λ_=>True) w):=by
 have B:=a.n;have C:=a.first;have D:=a.len;have F:=a.room;have G:=a.gone
 obtain⟨g,b⟩:=rm (r:=r.s) (e.all _ av) aa;have f:r.s.val= .slice (some ⟨g,0,none⟩) r.s.l.length r.s.c:=by rw[de.val,b]
 obtain⟨z,k⟩ : ∃z,r.s.l[r.first.toNat]? = some z:=⟨r.s.l[r.first.toNat]'aa,bE _⟩;have H:=p_ a (i:=1) aa
 refine bI func355 ntmps355 e ?_;refine ah ?_;intro I J K;refine ah ?_;refine bF [0,1,2,3,4,5,6,7,8,9] 2 [[(10,false,[]),(11,true,[])]] ?_;refine aK ?_;refine aL rfl (λm d=>(bC (q:=r.first.toNat) dK rfl rfl rfl b aa aa aG)) ?_;refine aL rfl (λm d=>(cx gV rfl rfl rfl (λL p j u t=>by subst p;exact d.xM (E:=cl) cr f k j u t) aG)) ?_;refine ah ?_;intro M N O;refine b3 (λ_=>True) (λ_ h=> .inr (h.rem bw.head)) (λ_ h=>a1) ?_;refine aK ?_;refine bF [0,1,2,3,4,5,6,7,8,9] 1 [[(10,true,[])]] ?_;refine aJ ?_;refine aL rfl (λm d=>(bC (q:=r.first.toNat) dK rfl rfl rfl b aa aa aG)) ?_;refine aq ?_;refine xN f (o:=r.first.toNat*2) gV rfl rfl nB (by rw[Addr.add_lit,dE]) rfl (cl.jc jm) (by rw[cl.dI];show r.first.toNat*2+2≤r.s.l.length*2;omega) ?_;refine aK ?_;refine ao rfl wY rfl (λv x=>xE v r (x.has cr) _ aa aa aa) ?_;refine oP ?_;refine hk (r:=(r.gone+1)%18446744073709551616) rfl rfl rfl (by simp[IntKind.wrap,IntKind.bits,IntKind.signed]) ?_;refine bH ?_;intro P y;exact aP.bQ (i:=z) a1 rfl (GY (r':=kE r) (g:=jm) k rfl rfl rfl (bA.je cl jm aa) (af.Ri y) ae)
theorem GZ (w:World) (r:dj) (e:a8 w (cc r)) (a:cX r):Calls prog 199 [ptr r.g].toArray w (aP (λ_:dj=> .int .i64 r.n) (cc r) cc (λz=>z.g=r.g∧z.room=r.room∧cX z∧z.rows=[]) w):=by
 have l:=a.n;have m:=a.first;have o:=a.len;have f:=a.room;have p:=a.gone
 refine bI func199 ntmps199 e ?_;refine aK ?_;refine ao rfl zT rfl (λh b=>AU h r (b.has aT)) ?_;refine aQ ?_;refine aj (λj=>?_) (λj=>?_);refine kA ?_;refine dn rfl rfl underlying3 underlying54 (r:=r.n) (by simp[IntKind.wrap,IntKind.bits,IntKind.signed];omega) ?_;refine hk (r:=(r.gone+r.n)%18446744073709551616) rfl rfl rfl (by simp[IntKind.wrap,IntKind.bits,IntKind.signed]) ?_;refine bH ?_;intro k d;exact aP.bQ (i:=(⟨r.g,⟨none,0,[]⟩,r.room,0,0,(r.gone+r.n)%18446744073709551616⟩ :dj)) ⟨rfl,rfl,⟨by simp;omega,f,by simp,by simp,by simp;omega⟩,rfl⟩ rfl ((af.nj (af.nj d (c:=aR []) (λc b=>by simp at b) rfl) (c:=own 144 2 (.slice none 0 0) 0 []) ⟨rfl,.inl ⟨rfl,rfl⟩⟩ rfl).ax ae);refine aQ ?_;intro k d;exact aP.bQ (i:=r) ⟨rfl,rfl,a,iC (by rw[ll];omega)⟩ rfl d
theorem af.A7 {b w:World} {S:List Nat} {cs l1 l2:List Chunk} (h:af b S (aR l1::aR l2::cs) w):af b S (aR (l1++l2)::cs) w:=by
 have a:=h.lb
 have c:af b S (aR l2::(l1++cs)) w:=a.perm ov
 have d:=c.lb
 refine af.close' (d.perm ?_);rw[←ea];exact List.Perm.append_right _ ou
theorem Rk (m:Nat):ff [.slice none 0 0,.bool false] m=cl.all (List.replicate m jm):=by
 induction m with
 | zero=>rfl
 | succ m a=>
  rw[mD];show ff _ (m+1)=cl.enc jm++cl.all (List.replicate m jm)
  rw[←a];rfl
def iO (r:dj):List bS:=r.s.l.drop r.first.toNat++r.s.l.take r.first.toNat
theorem G0 {r:dj} (h:cX r) {i:Nat} (hi:i<r.s.l.length): (iO r)[i]? = r.s.l[(eB r i).toNat]? :=by
 have b:=h.first
 unfold iO eB;rw[List.getElem?_append,fJ,mB,iD];by_cases a:i<r.s.l.length - r.first.toNat
 rw[aw a,ag aa];congr 1;omega
 rw[ag a,aw aa,aw aa];congr 1;omega
theorem A8 {r:dj} (h:cX r): (iO r).length=r.s.l.length:=by
 have a:=h.first
 simp only[iO,b6,fJ,dl];omega
def j6 (r:dj):Int:=min r.room (max 4 (2*(r.s.l.length:Int)))
def iP (r:dj) (g:Nat):dj:={ r with s:=⟨some ⟨g,0,none⟩,(j6 r).toNat,iO r++List.replicate ((j6 r).toNat - r.s.l.length) jm⟩,first:=0 }
theorem G1 {r:dj} {g:Nat} (h:cX r): (iP r g).s.l.length=(j6 r).toNat:=by
 have a:=h.len;have b:=h.room
 simp only[iP,b6,A8 h,hj,j6];omega
theorem G2 {r:dj} (h:cX r) (d:r.n=r.s.l.length) (e:r.n<r.room) (g:Nat):cX (iP r g)∧(iP r g).n<(iP r g).s.l.length:=by
 have f:=h.len;have b:=h.room;have i:=h.n;have c:=h.gone
 have a:=G1 (g:=g) h
 have j:r.n<j6 r:=by unfold j6;omega
 refine⟨⟨?_,b,?_,?_,c⟩,?_⟩;rw[a];simp only[iP];unfold j6 at *;omega
 rw[a];simp only[iP];omega
 rw[a];simp only[iP];omega
 rw[a];simp only[iP];omega
theorem Rl {r:dj} (h:cX r) (c:r.n=r.s.l.length) (d:r.n<r.room) (g:Nat): (iP r g).rows=r.rows:=by
 have f:=h.len;have j:=h.room;have k:=h.n
 have a:=G1 (g:=g) h
 have m:r.n<j6 r:=by unfold j6;omega
 apply mz
 intro i;rw[qb,qb];by_cases hi:i<r.n.toNat
 rw[aw hi,aw (by simp only[iP];omega)];have e:eB (iP r g) i=i:=by
  have b: (iP r g).first=0:=rfl
  unfold eB;rw[a,b];split <;> omega
 unfold qa;rw[e];simp only[iP,fV];rw[mA (by rw[A8 h];omega),G0 h aa];rw[ag hi,ag (by simp only[iP];omega)]
theorem Rm (w:World) (r:dj) (m:a8 w (cc r)) (a:cX r) (R:r.n=r.s.l.length) (S:r.n<r.room):Calls prog 356 [ptr r.g].toArray w (aP (λ_:Nat=> .tuple #[]) (cc r) (λg=>cc (iP r g)) (λ_=>True) w):=by
 have T:=a.n;have U:=a.first;have V:=a.len;have W:=a.room;have X:=a.gone
 have Y:r.n<j6 r:=by unfold j6;omega
 obtain⟨sz,p⟩ : ∃sz:Nat,j6 r=(sz:Int):=⟨(j6 r).toNat,aa⟩;have Z: (sz:Int)≤100000:=by rw[←p];unfold j6;omega
 have Za:=A8 a
 refine bI func356 ntmps356 m ?_;refine ar ?_;refine oF ([(0,ptr r.g),(2,.int .i64 (sz:Int))]) (af w (aB (cc r)) (cc r)) ?_ ?_
 ·refine bF [0,1,2,3,4,5,6,7,8,9,10,11,12] 0 [[]] ?_
  refine aJ ?_;refine aL rfl (λf d=>(k3 rfl rfl rfl (wrap64 aa aa) aG)) ?_;refine ay ?_;refine gy ?_ (λ_ h=>h);rw[←p];exact (iK rfl rfl)
 ·refine aS ?_
  refine sq sz dK rfl rfl rfl rfl (by simp only[maxLen];omega) aa (λb Zb Zc=>?_);refine b7 ?_;refine b2 (ι:=Nat) (λi=>[(0,ptr r.g),(3,.slice (some ⟨b,0,none⟩) sz sz),(22,.int .i64 r.n),(23,.int .i64 (i:Int))]) (λi=>af w (aB (cc r)) (own 144 2 (.slice (some ⟨b,0,none⟩) sz sz) sz (cl.all ((iO r).take i++List.replicate (sz - i) jm))::cc r)) (λi=>(i:Int)≤r.n) (λi=>r.n.toNat - i) ?_ ?_
  ·exact λw' e=>⟨0,aa,(cj rfl rfl rfl rfl),by
    rw[Rk] at e
    simpa using e⟩
  ·intro i hi
   refine al ?_;refine aj (λy=>?_) (λy=>?_)
   ·obtain⟨g,t⟩:=rm (r:=r.s) (m.all _ av) aa
    have A:r.s.val= .slice (some ⟨g,0,none⟩) r.s.l.length r.s.c:=by rw[de.val,t]
    have Zd:=p_ a (i:=(i:Int)) aa aa
    obtain⟨z,v⟩ : ∃z,r.s.l[(eB r i).toNat]? = some z:=⟨r.s.l[(eB r i).toNat]'aa,bE _⟩;have B: (iO r)[i]? = some z:=by rw[G0 a aa];exact v
    have C: (iO r).take (i+1)++List.replicate (sz - (i+1)) jm=((iO r).take i++List.replicate (sz - i) jm).set i z:=by
     have D: ((iO r).take i).length=i:=by rw[dl];omega
     rw[fR,B,sa _ _ aa,D,nh,show sz - i=(sz - (i+1))+1 by omega,mD,mE];simp
    have F: ((iO r).take i++List.replicate (sz - i) jm).length=sz:=by
     simp only[b6,dl,hj];omega
    refine aQ ?_;refine bF [0,1,2,3,4,5,6,7] 2 [[(8,false,[9,10,11]),(12,true,[])]] ?_;refine aQ ?_;refine ao rfl wY rfl (λG k=>xE G r (k.has bJ) _ aa aa aa) ?_;refine b3 (_) (λ_ h=> .inr h) (λ_ h=>h) ?_;refine aL rfl (λf d=>(bC (q:=(eB r i).toNat) dK rfl rfl rfl t aa aa aG)) ?_;refine aL rfl (λf d=>(cx gV rfl rfl rfl (λZe H j u I=>by subst H;exact d.xM (E:=cl) cr A v j u I) aG)) ?_;refine aL rfl (λf d=>(bC (q:=i) dK rfl rfl rfl rfl aa aa aG)) ?_;refine aq ?_;refine mI (o:=i*2) gV rfl rfl cA (by rw[Addr.add_lit,dE]) rfl (cl.jc z) (by rw[cl.dI,F];show i*2+2≤sz*2;omega) ?_;refine aJ ?_;refine bi (i+1) aa aa (cj rfl rfl rfl rfl) (λw' e=>?_);rw[C,←bA.je cl z aa];exact e
   ·have J:i=r.s.l.length:=by omega
    refine ey ?_;intro K x;have L: (iO r).take i=iO r:=ev aa
    rw[L,J] at x
    have M: (j6 r).toNat=sz:=by omega
    refine aP.of (b:Nat) a1 ?_;have N:=x.ax (l:=[r.s.b9,aD r.g [.slice (some ⟨b,0,none⟩) sz sz,.int .i64 r.room,.int .i64 0,.int .i64 r.n,.int .u64 r.gone] 208,own 144 2 (.slice (some ⟨b,0,none⟩) sz sz) sz (cl.all (iO r++List.replicate (sz - r.s.l.length) jm))]) ae
    have ai:List.Perm (r.s.l.map bS.aF) ((iO r).map bS.aF):=by
     refine List.Perm.map _ ?_;unfold iO;conv=>lhs;rw[←iF r.first.toNat r.s.l]
     exact ou
    have aH:=N.GN ai
    have O:af w _ (aR ((iO r).map bS.aF)::aR (List.replicate (sz - r.s.l.length) jm.aF)::_) K:=(af.nj aH (c:=aR (List.replicate (sz - r.s.l.length) jm.aF)) (λc k=>by rw[ng k];exact⟨rfl,.inl ⟨rfl,rfl⟩⟩) (by simp[aR,aB,own,Value.ownBlock])).perm (List.Perm.swap _ _ _)
    have P:=O.A7
    have Q: (iO r++List.replicate (sz - r.s.l.length) jm).length=sz:=by
     simp only[b6,hj];omega
    simp only[cc,dj.an,AT,de.val,de.au,de.b9,iP,M,Q,fQ,List.map_replicate];exact P.ax ae
def o0 (h:List bG) (room:Int) (r:bG):List bG:=if room=0 then h else (if (h.length:Int)=room then h.tail else h)++[r]
theorem A9 (w:World) (r:dj) (T:a8 w (cc r)) (d:cX r) (F:Nat→Prop) (A:Option Addr) (n c:Nat) (L:List bh) (B:Bool) (U:Rd bK w F A n c L) (V: ∀k,F k→k∉aB (cc r)) (W:n≤1000000):
 Calls prog 277 [ptr r.g,.agg [.slice A n c,.bool B].toArray].toArray w
  (aP (λi:List Value × dj=> .tuple #[.agg i.1.toArray,.bool (decide (r.n=r.room))]) (cc r) (λi=>cc i.2) (λi=>i.2.g=r.g∧i.2.room=r.room∧cX i.2∧i.2.rows=o0 r.rows r.room (L,B)∧i.1.length=2∧aI i.1) w):=by
 have X:=d.n;have Y:=d.first;have Z:=d.len;have Za:=d.room;have Zp:=d.gone
 refine bI func277 ntmps277 T ?_;refine ah ?_;intro t Zq Zr;refine ar ?_;intro u Zs Zt;refine dB ?_;refine gp rfl EJ rfl (λj m=>GX j F A n c L B (U.ext m.ext V) W) (λa Zb=>?_);refine bH ?_;refine aj (λC=>?_) (λC=>?_);refine al ?_;refine hk (r:=(r.gone+1)%18446744073709551616) rfl rfl rfl (by simp[IntKind.wrap,IntKind.bits,IntKind.signed]) ?_;refine b7 ?_;refine ik results277 (cy.eX gV rfl bJ rfl rfl) (cy.tmp rfl) (λZc D=>?_);exact aP.bQ (i:=(a.enc,{ r with gone:=(r.gone+1)%18446744073709551616 })) ⟨rfl,rfl,⟨Z,Za,X,Y,by simp only;omega⟩,by rw[o0,aw C];rfl,rfl,cl.jc a⟩ (by rw[bX (by omega:r.n=r.room)];rfl) (D.ax ae);refine ay ?_;intro x Zu Zv;refine ah ?_;refine bF [0,1,2,3,4,5,6,7,8,9] 0 [[]] ?_;refine cF ?_;have Zw:=ll r
 refine aS ?_;refine hL (λi:Value × Value × dj=>[(0,ptr r.g),(3,ptr t),(4,ptr u),(6,ptr x),(7,.bool (decide (r.n=r.room)))]) (λi=>af w (aB (cc r)) (aD x [i.1,i.2.1] 144::a.aF::aD u [.slice none 0 0,.bool false] 144::aD t a.enc 144::cc i.2.2)) (λi=>aI [i.1,i.2.1]∧i.2.2.g=r.g∧i.2.2.room=r.room∧cX i.2.2∧i.2.2.n<i.2.2.room∧i.2.2.rows=(if (r.rows.length:Int)=r.room then r.rows.tail else r.rows)) ?_ ?_;refine aj (λZd=>?_) (λZd=>?_);refine aq ?_;refine a6 ae rfl O7 rfl (λj m=>Rj j r (m.bo ae) d aa) (λy Zx=>?_);refine aq ?_;refine dr (.slice y.A y.cells.length y.c,.bool y.cont,kE r) ⟨aI.cons rfl (aI.cons rfl aI.nil),rfl,rfl,Re d aa,by show r.n - 1<r.room;omega,?_⟩ (ec rfl rfl rfl rfl rfl) (λ_ h=>af.ax h ae);rw[Rf d aa,aw aa];refine ar ?_;refine dr (.slice none 0 0,.bool false,r) ⟨aI.cons rfl (aI.cons rfl aI.nil),rfl,rfl,d,by show r.n<r.room;omega,?_⟩ (ec rfl rfl rfl rfl rfl) (λ_ h=>af.ax h ae);rw[ag aa];rintro⟨M,N,hl⟩ ⟨E,O,G,b,p,H⟩;dsimp only at E O G b p H ⊢
 rw[←O];have Zy:=b.n;have Zz:=b.first;have ZA:=b.len;have ZB:=b.room
 refine ah ?_;refine bF [0,1,2,3,4,5,6,7,8,9] 0 [[]] ?_;refine bH ?_;refine hL (λi:Value × Value × dj=>[(0,ptr hl.g),(3,ptr t),(4,ptr u),(6,ptr x),(7,.bool (decide (r.n=r.room)))]) (λi=>af w (aB (cc r)) (aD x [i.1,i.2.1] 144::a.aF::aD u [.slice none 0 0,.bool false] 144::aD t a.enc 144::cc i.2.2)) (λi=>aI [i.1,i.2.1]∧i.2.2.g=hl.g∧i.2.2.room=r.room∧cX i.2.2∧i.2.2.n<i.2.2.room∧i.2.2.rows=(if (r.rows.length:Int)=r.room then r.rows.tail else r.rows)∧i.2.2.n<i.2.2.s.l.length) ?_ ?_;refine aj (λZe=>?_) (λZe=>?_);refine aq ?_;refine a6 ae rfl O8 rfl (λj m=>Rm j hl (m.bo ae) b aa p) (λI _=>?_);refine ar ?_;refine dr (M,N,iP hl I) ⟨E,rfl,G,(G2 b aa p I).1,p,?_,(G2 b aa p I).2⟩ (ec rfl rfl rfl rfl rfl) (λ_ h=>af.ax h ae);rw[Rl b aa p];exact H
 refine ar ?_;exact dr (M,N,hl) ⟨E,rfl,G,b,p,H,by show hl.n<hl.s.l.length;omega⟩ bR (λ_ h=>h);rintro⟨Zf,Zg,fg⟩ ⟨J,P,Q,f,Zh,R,K⟩;dsimp only at J P Q f Zh R K ⊢
 rw[←P];have ZC:=f.n;have ZD:=f.first;have ZE:=f.len;have ZF:=f.room
 have ZG:=p_ f (i:=fg.n) aa aa
 refine hE (e:=144) (sz:=2) (v:=fg.s.val) kz (λdG c9 Zi _ _ _ Zj=>?_);injection Zi with Zk _ Zl
 subst Zk Zl;obtain⟨Zm,S⟩:=Zj aa;have Zn:fg.s.val= .slice (some ⟨Zm,0,none⟩) fg.s.l.length fg.s.c:=by rw[de.val,S]
 obtain⟨z,Zo⟩ : ∃z,fg.s.l[(eB fg fg.n).toNat]? = some z:=⟨fg.s.l[(eB fg fg.n).toNat]'aa,bE _⟩;refine ar ?_;refine bF [0,1,2,3,4,5,6,7,8,10] 2 [[(9,false,[11]),(12,true,[])]] ?_;refine bx ?_;refine ao rfl wY rfl (λj m=>xE j fg (m.has hM) _ aa aa aa) ?_;refine ar ?_;refine aL rfl (λZH ZI=>(bC (q:=(eB fg fg.n).toNat) dK rfl rfl rfl S aa aa aG)) ?_;refine aq ?_;refine xN Zn (o:=(eB fg fg.n).toNat*2) gV rfl rfl sP (by rw[Addr.add_lit,dE]) rfl (cl.jc a) (by rw[cl.dI];show (eB fg fg.n).toNat*2+2≤fg.s.l.length*2;omega) ?_;refine hq ?_;refine e3 gV rfl rfl lf rfl J (dV rfl) ?_;refine aS ?_;refine ik results277 (cy.eX gV rfl cr rfl rfl) (cy.tmp rfl) (λZc D=>?_);refine aP.bQ (i:=([Zf,Zg],kF fg a)) ⟨rfl,Q,Rg f K _,?_,rfl,J⟩ rfl (GY (r':=kF fg a) (g:=a) Zo rfl rfl rfl (bA.je cl a aa) D ae);rw[Rh f K,Zb,o0,ag C,R]
theorem G3 {P:Program} {n:Nat} {ops:Array Oper} {Q:cq} {rest:List Oper} {l:Fr} {d:Nat} {ty:TypeId} {pos:String} {a7:Array Edge} {b:World} {S:List Nat} {cs:List Chunk} {α:Type} {E:bA α} {x y:Operand} {t e i:Nat} {z:List Value} {v0:Value} {g m c a c1:Nat} {f:Option Addr} {L:List α} {A:Option Addr} {k c':Nat} {src:List α} {F:Nat→Prop} {cs':List Chunk} (j:v0= .slice (some ⟨g,0,none⟩) m c) (p r:Nat) (o:r=min k a) (q:c6 P t e E.sz i z) (ak:Nat.blt d n=true)
 (s:ba l x=some (.slice f a c1)) (u:ba l y=some (.slice A k c')) (ai:0<r→f=some ⟨g,p*E.sz,none⟩) (v:p+r≤L.length)
 (B:bn cs (own e E.sz v0 m (E.all L)) (own e E.sz v0 m (E.all (L.take p++src.take r++L.drop (p+r)))) cs')
 (C: ∀w,af b S cs w→Rd E w F A k c' src)
 (h:az P n ops Q rest ((d,.int .i64 (r:Int))::l) (af b S cs')):
 az P n ops Q (⟨some d,.call ⟨.builtin .copy,#[x,y],#[t,t]⟩,ty,pos,a7,none⟩::rest) l (af b S cs):=by
 subst j;exact xG p r o q ak s u ai v B C h
def ha {α:Type} (l:List α) (a b:Nat) (r:α):List α:=
 if a<b then l.take a++(l.drop (a+1)).take (b - a)++[r]++l.drop (b+1) else l.take b++[r]++(l.drop b).take (a - b)++l.drop (a+1)
theorem A_ {α:Type} {l:List α} {a b:Nat} {r:α} (c:a<l.length) (d:b<l.length): (ha l a b r).length=l.length:=by
 unfold ha;split <;> simp only[b6,dl,fJ,eO,lL] <;> omega
theorem Rn {α c:Type} (f:α→c) (l:List α) (a b:Nat) (r:α): (ha l a b r).map f=ha (l.map f) a b (f r):=by
 unfold ha;split <;> simp[List.map_take,List.map_drop]
theorem Ro {α:Type} {l:List α} {a b:Nat} {r:α} (c:a<l.length) (d:b<l.length):List.Perm (l.set a r) (ha l a b r):=by
 rw[qN,aw c];unfold ha;split
 have e:l.drop (a+1)=(l.drop (a+1)).take (b - a)++l.drop (b+1):=by
  conv=>lhs;rw[←iF (b - a) (l.drop (a+1))]
  rw[lJ,show a+1+(b - a)=b+1 by omega]
 conv=>lhs;rw[e]
 simp only[ea];refine List.Perm.append_left _ ?_;rw[←sb (x:=r),←ea,←ea];exact List.Perm.append_right _ ou;have e:l.take a=l.take b++(l.drop b).take (a - b):=by
  conv=>lhs;rw[show a=b+(a - b) by omega,List.take_add]
 rw[e];simp only[ea];refine List.Perm.append_left _ ?_;rw[←sb (x:=r),←ea,←ea];exact List.Perm.append_right _ ou
theorem Rp {α:Type} {l:List α} {a b:Nat} {r:α} (c:a<b) (d:b<l.length): (l.take a++((l.take (b+1)).drop (a+1)).take (b - a)++l.drop (a+(b - a))).set b r=ha l a b r:=by
 rw[ha,aw c,show a+(b - a)=b by omega];have e: ((l.take (b+1)).drop (a+1)).take (b - a)=(l.drop (a+1)).take (b - a):=by
  rw[List.drop_take,List.take_take,show min (b - a) (b+1 - (a+1))=b - a by omega]
 rw[e,sa _ _ (by simp;omega)];have f:b - (l.take a++(l.drop (a+1)).take (b - a)).length=0:=by simp;omega
 rw[f,lK d,mE];simp
theorem Rq {α:Type} {l:List α} {a b:Nat} {r:α} (c: ¬a<b) (f:a<l.length): (l.take (b+1)++((l.take a).drop b).take (a - b)++l.drop (b+1+(a - b))).set b r=ha l a b r:=by
 rw[ha,ag c,show b+1+(a - b)=a+1 by omega];have d: ((l.take a).drop b).take (a - b)=(l.drop b).take (a - b):=by
  rw[List.drop_take,List.take_take,Nat.min_self]
 rw[d,ea,List.set_append_left _ _ (by simp;omega)];have e: (l.take (b+1)).set b r=l.take b++[r]:=by
  rw[fR,bE aa,pB,sa _ _ (by simp only[dl];omega)];have:b - (l.take b).length=0:=by simp;omega
  rw[this];rfl
 rw[e];simp
def ro (p:bq) (l:List bS):bq:={ p with s:={ p.s with l:=l } }
theorem Ba {w:World} {r:de} (a:r.au.pred w):Rd cl w (λ_=>True) r.A r.l.length r.c r.l:=by
 obtain⟨A,c,b,d⟩:=Rd.gf (E:=cl) (show w.ownsRow 0 144 cl.sz r.val r.l.length (cl.all r.l) from a) rfl;injection b with e g f
 subst e f;exact d.dC (λ_ _=>a1)
theorem G4 {b w:World} {S:List Nat} {cs cs':List Chunk} {p:bq} {x y:Nat} {g:bS} {xs:List Value} (a:x<p.s.l.length) (d:y<p.s.l.length) (f:xs=cl.all (ha p.s.l x y g)) (h:af b S cs w)
 (i:aA cs [g.aF,p.s.b9,p.an,aR (cc p.r),own 144 2 p.s.val p.s.l.length xs,p.bf.au] cs'):af b S (bB (ro p (ha p.s.l x y g))) w:=by
 have j:=h.ax i
 have aH:=j.AS (k:=x) (c:=(p.s.l[x]'a).aF) (by simp[a])
 have m:=aH.GN (l':=(ha p.s.l x y g).map bS.aF) (by
  rw[←oo];exact List.Perm.map _ (Ro a d))
 have n:=A_ (r:=g) a d
 have e:bB (ro p (ha p.s.l x y g))=[p.an,aR (cc p.r),own 144 2 p.s.val p.s.l.length xs,aR ((ha p.s.l x y g).map bS.aF),p.bf.au]:=by
  subst f;simp only[bB,ro,bq.an,nH,de.val,de.au,de.b9,n]
 rw[e];exact m.ax ae
theorem Rr (w:World) (p:bq) (j:a8 w (bB p)) (A:c7 p.abs) (x y:Nat) (k:x<p.s.l.length) (m:y<p.s.l.length) (an aM:Int):
 Calls prog 420 [ptr p.g,.int .i64 (x:Int),.int .i64 (y:Int),.agg [.int .i64 an,.int .i64 aM].toArray].toArray w
  (aP (λ_:bS=> .tuple #[]) (bB p) (λg=>bB (ro p (ha p.s.l x y g))) (λg=>g.fw=(List.replicate (lk p.cols) (j4 an aM),false)) w):=by
 have B:=A.rows
 simp only[bq.abs,b5,cB] at B
 obtain⟨g,b⟩:=rm (r:=p.s) (j.all _ av) aa;have f:p.s.val= .slice (some ⟨g,0,none⟩) p.s.l.length p.s.c:=by rw[de.val,b]
 have I:p.s.l.length≤p.s.c:=(Ba (j.all p.s.au av)).cap
 refine bI func420 ntmps420 j ?_;refine ah ?_;intro J K M;refine aQ ?_;refine aj (λC=>?_) (λC=>?_);refine bF [0,1,2,3,4,5,6,7,8,9,10,11,12,13,14,15] 1 [[(16,true,[])]] ?_;refine al ?_;refine aL rfl (λd e=>(fz x y dK rfl rfl (.inl ⟨_,_,rfl,rfl,aa⟩) (.inl ⟨_,_,rfl,rfl,aa⟩) aa aa aG)) ?_;refine aK ?_;refine aL rfl (λd e=>(fz (x+1) (y+1) dK rfl rfl (.inl ⟨_,_,rfl,rfl,aa⟩) (.inl ⟨_,_,rfl,rfl,aa⟩) aa aa aG)) ?_;refine aq ?_;refine G3 (E:=cl) (L:=p.s.l) (src:=(p.s.l.take (y+1)).drop (x+1)) (g:=g) (F:=λ_=>True) f x (y - x) aa dK rfl rfl rfl (λD=>by rw[ag aa,b];simp[Addr.add_lit];rfl) aa nB (λG n=>(Ba (r:=p.s) (n.has gD)).cut aa aa) ?_;refine aS ?_;refine bF [0,1,2,3,4,5,6] 2 [[(7,false,[8]),(9,true,[])]] ?_;refine aJ ?_;refine gp rfl Aa rfl (λt u=>A6 t p (u.has bJ) an aM) (λa v=>?_);refine b3 (λ_=>True) (λ_ h=> .inr (h.rem bw.head)) (λ_ h=>a1) ?_;refine aL rfl (λd e=>(bC (q:=y) dK rfl rfl rfl b aa aa aG)) ?_;refine aq ?_;refine xN f (o:=y*2) gV rfl rfl jk (by rw[Addr.add_lit,dE]) rfl (cl.jc a) (by rw[cl.dI];simp only[b6,dl,fJ];show y*2+2≤_*2;omega) ?_;refine aS ?_;intro H z;exact aP.bQ (i:=a) v rfl (G4 k m ((bA.je cl a (by simp only[b6,dl,fJ];omega)).trans (aU cl.all (Rp aa m))) z ae);refine bF [0,1,2,3,4,5,6,7,8,9,10,11,12,13,14,15] 1 [[(16,true,[])]] ?_;refine aK ?_;refine aL rfl (λd e=>(fz (y+1) (x+1) dK rfl rfl (.inl ⟨_,_,rfl,rfl,aa⟩) (.inl ⟨_,_,rfl,rfl,aa⟩) aa aa aG)) ?_;refine al ?_;refine aL rfl (λd e=>(fz y x dK rfl rfl (.inl ⟨_,_,rfl,rfl,aa⟩) (.inl ⟨_,_,rfl,rfl,aa⟩) aa aa aG)) ?_;refine aq ?_;refine G3 (E:=cl) (L:=p.s.l) (src:=(p.s.l.take x).drop y) (g:=g) (F:=λ_=>True) f (y+1) (x - y) aa dK rfl rfl rfl (λD=>by rw[ag aa,b];simp[Addr.add_lit];rfl) aa nB (λG n=>(Ba (r:=p.s) (n.has gD)).cut aa aa) ?_;refine aS ?_;refine bF [0,1,2,3,4,5,6] 2 [[(7,false,[8]),(9,true,[])]] ?_;refine aJ ?_;refine gp rfl Aa rfl (λt u=>A6 t p (u.has bJ) an aM) (λa v=>?_);refine b3 (λ_=>True) (λ_ h=> .inr (h.rem bw.head)) (λ_ h=>a1) ?_;refine aL rfl (λd e=>(bC (q:=y) dK rfl rfl rfl b aa aa aG)) ?_;refine aq ?_;refine xN f (o:=y*2) gV rfl rfl jk (by rw[Addr.add_lit,dE]) rfl (cl.jc a) (by rw[cl.dI];simp only[b6,dl,fJ];show y*2+2≤_*2;omega) ?_;refine aS ?_;intro H z;exact aP.bQ (i:=a) v rfl (G4 k m ((bA.je cl a (by simp only[b6,dl,fJ];omega)).trans (aU cl.all (Rq aa k))) z ae)
def fU (p:b0):Int:=p.jL.length
def nN (p:b0) (a b:Nat) (k v:Int):b0:={ p with cG:=ha p.cG a b (rl p.cols k v) }
def s8 (p:b0) (a b:Nat) (k v:Int):b0:=iN (iN (nN (fM (fM p 1 (fU p+a) 1) 0 (fU p+b) 1) a b k v) a false) (b+1) false
def o1 (p:b0) (a b:Nat) (k v:Int):b0:=iN (iN (nN (fM (fM p 1 (fU p+b) 1) 0 (fU p+a) 1) b a k v) (a+1) false) (b+1) false
def nO (p:b0):b0:={ p with jL:=o0 p.jL p.room (p.cG.headD ([],false)) }
def mS (p:b0) (a b:Nat) (k v:Int):b0:=
 if 0<a then s8 p a b k v else
 let q:=fM p 0 (fU p+b+1) 1
 let q:=if fU p=p.room then fM (nO q) 2 0 1 else nO q
 iN (nN q 0 b k v) (b+1) false
def s9 (p:b0):b0:=if p.jL.length=0 then p else iN (fM { p with jL:=[] } 2 0 p.jL.length) 0 false
theorem rp {p:bq} (h:cX p.r):p.r.n=fU p.abs:=by
 have:=h.n
 simp only[fU,bq.abs,ll];omega
theorem qc {p:b0} (h:c7 p) (k a n:Int):c7 (fM p k a n):=⟨h.cols,h.rows,h.wide,h.nM,h.room⟩
theorem mem_modify {α:Type} {f:α→α}: ∀{l:List α} {k:Nat} {x:α},x∈l.modify k f→x∈l∨ ∃y∈l,x=f y
 | [],k,x,h=>by simp at h
 | a::l,0,x,h=>by
  rw[List.modify_zero_cons] at h
  rcases e1.1 h with rfl | h
  exact .inr ⟨a,by simp,rfl⟩;exact .inl (by simp[h])
 | a::l,k+1,x,h=>by
  rw[List.modify_succ_cons] at h
  rcases e1.1 h with rfl | h
  exact .inl av;rcases mem_modify h with h | ⟨y,b,rfl⟩
  exact .inl (by simp[h]);exact .inr ⟨y,by simp[b],rfl⟩
theorem Bb {p:b0} (h:c7 p) (y:Int) (b:Bool):c7 (iN p y b):=by
 unfold iN nK;split
 refine⟨h.cols,by simpa using h.rows,λr a=>?_,h.nM,h.room⟩;rcases mem_modify a with a | ⟨r',c,rfl⟩
 exact h.wide r a;exact h.wide r' c;exact h
theorem Rs {α:Type} {l:List α} {a b:Nat} {r x:α} (h:x∈ha l a b r):x∈l∨x=r:=by
 unfold ha at h
 split at h <;> simp only[cZ,eb] at h
 rcases h with ((h | h) | h) | h
 exact .inl (iE h);exact .inl (lN (iE h));exact .inr h;exact .inl (lN h);rcases h with ((h | h) | h) | h
 exact .inl (iE h);exact .inr h;exact .inl (lN (iE h));exact .inl (lN h)
theorem xO {p:b0} (h:c7 p) {a b:Nat} (e:a<p.cG.length) (f:b<p.cG.length) (k v:Int):c7 (nN p a b k v):=by
 refine⟨h.cols,?_,λr d=>?_,h.nM,h.room⟩;have:=h.rows
 simp only[nN,A_ e f];exact this
 rcases Rs d with d | rfl
 exact h.wide r d;have:=h.cols
 refine⟨by simp only[rl,nN,hj];omega,λc g=>?_⟩;rw[ng g];exact bP _
theorem Rt {p:bq} (d:c7 p.abs) {a b:Nat} {g:bS} {k v:Int} (c:g.fw=(List.replicate (lk p.cols) (j4 k v),false)): (ro p (ha p.s.l a b g)).abs=nN p.abs a b k v:=by
 have e:lk p.cols=p.cols.toNat:=by
  have:=d.cols
  simp only[bq.abs] at this
  unfold lk;omega
 rw[e] at c
 simp only[bq.abs,ro,nN,b5,Rn,c,rl]
structure Ru (g:Nat) (q:b0) (i:bq):Prop where
 g:i.g=g
 r:cX i.r
 abs:i.abs=q
theorem Bc (w:World) (p:bq) (b:a8 w (bB p)) (c:cX p.r) (a:c7 p.abs) (x y:Nat) (d:x<p.s.l.length) (f:y<p.s.l.length) (an aM:Int):
 Calls prog 420 [ptr p.g,.int .i64 (x:Int),.int .i64 (y:Int),.agg [.int .i64 an,.int .i64 aM].toArray].toArray w (hT p (nN p.abs x y an aM) w):=
 (Rr w p b a x y d f an aM).mono (λe w' h=>aP.mono h (λg i=>⟨ro p (ha p.s.l x y g),⟨rfl,c,Rt a i⟩,rfl,rfl⟩))
theorem G5 (w:World) (p:bq) (D:a8 w (bB p)) (j:cX p.r) (k:c7 p.abs) (U:p.bf.l.length≤1152921504600) (x y:Nat) (V:x<p.s.l.length) (W:y<p.s.l.length) (an aM:Int):
 Calls prog 391 [ptr p.g,.int .i64 (x:Int),.int .i64 (y:Int),.agg [.int .i64 an,.int .i64 aM].toArray].toArray w (hT p (s8 p.abs x y an aM) w):=by
 have E:=k.rows
 have m:=rp j
 have X:=k.room
 have Y:=j.n
 have Z: (p.abs.jL.length:Int)=p.r.n:=by rw[m];rfl
 simp only[bq.abs,b5,cB] at E
 refine bI func391 ntmps391 D ?_;refine ah ?_;intro Za Zb Zc;refine al ?_;refine ao rfl oL rfl (λb c=>by have a:=oX b p (c.has bJ) ((c.has cr: (aR (cc p.r)).pred b) p.r.an av);exact a) ?_;refine aq ?_;refine a6 (l0:=bB p) ae rfl pO rfl (λb c=>by have a:=p9 b p (c.bo ae) j aa 1 (p.r.n+x) 1;exact a) (λd F=>?_);obtain⟨e,t,f⟩:=F;have G:d.r.n=p.r.n:=by rw[rp t,f,m];rfl
 have Zd:d.bf.l.length=p.bf.l.length+1:=by have:=aU (λz=>z.gi.length) f;simpa [bq.abs,fM] using this
 refine al ?_;refine ao rfl oL rfl (λb c=>by have a:=oX b d (c.has aT) ((c.has bJ: (aR (cc d.r)).pred b) d.r.an av);rw[e] at a;exact a) ?_;refine aq ?_;refine a6 (l0:=bB d) ae rfl pO rfl (λb c=>by have a:=p9 b d (c.bo ae) t aa 0 (d.r.n+y) 1;rw[e] at a;exact a) (λh H=>?_);obtain⟨i,I,hU⟩:=H;have Ze:h.s.l.length=p.s.l.length:=by have:=aU (λz=>z.cG.length) (hU.trans (aU (λz=>fM z 0 _ 1) f));simpa [bq.abs,fM] using this
 have u:c7 h.abs:=by rw[hU,f];exact qc (qc k _ _ _) _ _ _
 refine aK ?_;refine a6 (l0:=bB h) ae rfl An rfl (λb c=>by have a:=Bc b h (c.bo ae) I u x y aa aa an aM;rw[i.trans e] at a;exact a) (λo J=>?_);obtain⟨c1,K,v⟩:=J;have A:c7 o.abs:=by rw[v];exact xO u (by simp[bq.abs];omega) (by simp[bq.abs];omega) _ _
 refine al ?_;refine a6 (l0:=bB o) ae rfl pS rfl (λb c=>by have a:=p8 b o (c.bo ae) K A (x:Int);rw[c1.trans (i.trans e)] at a;exact a) (λq L=>?_);obtain⟨B,M,C⟩:=L;have N:c7 q.abs:=by rw[C];exact Bb A _ _
 refine al ?_;refine a6 (l0:=bB q) ae rfl pS rfl (λb c=>by have a:=p8 b q (c.bo ae) M N ((y:Int)+1);rw[B.trans (c1.trans (i.trans e))] at a;exact a) (λO P=>?_);refine aq ?_;intro Zf Q;obtain⟨R,S,T⟩:=P;exact aN O ⟨R.trans (B.trans (c1.trans (i.trans e))),S,by rw[T,C,v,hU,f,G,m];rfl⟩ Q
theorem Rv (w:World) (p:bq) (D:a8 w (bB p)) (j:cX p.r) (k:c7 p.abs) (T:p.bf.l.length≤1152921504600) (x y:Nat) (U:x<p.s.l.length) (V:y<p.s.l.length) (an aM:Int):
 Calls prog 383 [ptr p.g,.int .i64 (x:Int),.int .i64 (y:Int),.agg [.int .i64 an,.int .i64 aM].toArray].toArray w (hT p (o1 p.abs x y an aM) w):=by
 have E:=k.rows
 have m:=rp j
 have W:=k.room
 have X:=j.n
 have Y: (p.abs.jL.length:Int)=p.r.n:=by rw[m];rfl
 simp only[bq.abs,b5,cB] at E
 refine bI func383 ntmps383 D ?_;refine ah ?_;intro Z Za Zb;refine al ?_;refine ao rfl oL rfl (λb c=>by have a:=oX b p (c.has bJ) ((c.has cr: (aR (cc p.r)).pred b) p.r.an av);exact a) ?_;refine aq ?_;refine a6 (l0:=bB p) ae rfl pO rfl (λb c=>by have a:=p9 b p (c.bo ae) j aa 1 (p.r.n+y) 1;exact a) (λd F=>?_);obtain⟨e,t,f⟩:=F;have G:d.r.n=p.r.n:=by rw[rp t,f,m];rfl
 have Zc:d.bf.l.length=p.bf.l.length+1:=by have:=aU (λz=>z.gi.length) f;simpa [bq.abs,fM] using this
 refine al ?_;refine ao rfl oL rfl (λb c=>by have a:=oX b d (c.has aT) ((c.has bJ: (aR (cc d.r)).pred b) d.r.an av);rw[e] at a;exact a) ?_;refine aq ?_;refine a6 (l0:=bB d) ae rfl pO rfl (λb c=>by have a:=p9 b d (c.bo ae) t aa 0 (d.r.n+x) 1;rw[e] at a;exact a) (λh H=>?_);obtain⟨i,I,hU⟩:=H;have Zd:h.s.l.length=p.s.l.length:=by have:=aU (λz=>z.cG.length) (hU.trans (aU (λz=>fM z 0 _ 1) f));simpa [bq.abs,fM] using this
 have u:c7 h.abs:=by rw[hU,f];exact qc (qc k _ _ _) _ _ _
 refine aK ?_;refine a6 (l0:=bB h) ae rfl An rfl (λb c=>by have a:=Bc b h (c.bo ae) I u y x aa aa an aM;rw[i.trans e] at a;exact a) (λo J=>?_);obtain⟨c1,K,v⟩:=J;have A:c7 o.abs:=by rw[v];exact xO u (by simp[bq.abs];omega) (by simp[bq.abs];omega) _ _
 refine aC ?_;refine a6 (l0:=bB o) ae rfl pS rfl (λb c=>by have a:=p8 b o (c.bo ae) K A ((x:Int)+1);rw[c1.trans (i.trans e)] at a;exact a) (λq L=>?_);obtain⟨B,M,C⟩:=L;have N:c7 q.abs:=by rw[C];exact Bb A _ _
 refine al ?_;refine a6 (l0:=bB q) ae rfl pS rfl (λb c=>by have a:=p8 b q (c.bo ae) M N ((y:Int)+1);rw[B.trans (c1.trans (i.trans e))] at a;exact a) (λi32 O=>?_);refine aq ?_;intro Ze P;obtain⟨Q,R,S⟩:=O;exact aN i32 ⟨Q.trans (B.trans (c1.trans (i.trans e))),R,by rw[S,C,v,hU,f,G,m];rfl⟩ P
theorem Rw {h:List bG} {room:Int} {r:bG} (a: (h.length:Int)≤room): ((o0 h room r).length:Int)≤room:=by
 unfold o0;split
 exact a;split <;> simp <;> omega
theorem G6 {h:List bG} {room:Int} {r x:bG} (a:x∈o0 h room r):x∈h∨x=r:=by
 unfold o0 at a
 split at a
 exact .inl a;rcases cZ.1 a with a | a
 split at a
 exact .inl (List.mem_of_mem_tail a);exact .inl a;exact .inr (eb.1 a)
theorem xP {p:b0} (h:c7 p):c7 (nO p):=by
 refine⟨h.cols,h.rows,h.wide,λr b=>?_,Rw h.room.1,h.room.2⟩;rcases G6 b with b | rfl
 exact h.nM r b;cases c:p.cG with
 | nil=>have:=h.rows.1;rw[c] at this;simp at this
 | cons a l=>exact h.wide a (by rw[c];simp)
def iq (p:bq) (r:dj):bq:={ p with r:=r }
theorem Rx {b w:World} {S:List Nat} {cs cs':List Chunk} {p:bq} {r:dj} (a:r.g=p.r.g) (c:af b S cs w) (d:aA cs [r.an,r.s.au,r.s.b9,p.an,p.s.au,p.s.b9,p.bf.au] cs'):af b S (bB (iq p r)) w:=by
 have f:=c.ax d
 have aH:af b S (aR (cc r)::[p.an,p.s.au,p.s.b9,p.bf.au]) w:=af.close' (l:=cc r) f
 have e:bB (iq p r)=[p.an,aR (cc r),p.s.au,p.s.b9,p.bf.au]:=by
  simp only[bB,iq,bq.an,nH,a]
 rw[e];exact aH.ax ae
theorem Ry (w:World) (p:bq) (Zo:a8 w (bB p)) (M:cX p.r) (N:c7 p.abs) (Zp:p.bf.l.length≤1152921504600) (x y:Nat) (Zq:x<p.s.l.length) (Zr:y<p.s.l.length) (an aM:Int):
 Calls prog 382 [ptr p.g,.int .i64 (x:Int),.int .i64 (y:Int),.agg [.int .i64 an,.int .i64 aM].toArray].toArray w (hT p (mS p.abs x y an aM) w):=by
 have Zs:=N.rows
 have O:=rp M
 have Z4:=N.room
 have Z5:=M.n
 have Z6: (p.abs.jL.length:Int)=p.r.n:=by rw[O];rfl
 simp only[bq.abs,b5,cB] at Zs
 refine bI func382 ntmps382 Zo ?_;refine ah ?_;intro t Z7 Z8;refine aJ ?_;refine aj (λZt=>?_) (λZt=>?_);refine al ?_;refine a6 (l0:=bB p) ae rfl Fv rfl (λf d=>by have m:=G5 f p (d.bo ae) M N Zp x y Zq Zr an aM;exact m) (λZu Zv=>?_);refine ay ?_;intro Zw Q;obtain⟨F,G,H⟩:=Zv;exact aN Zu ⟨F,G,by rw[H,mS,aw aa]⟩ Q;obtain rfl:x=0:=by omega
 refine al ?_;refine ao rfl oL rfl (λf d=>by have m:=oX f p (d.has bJ) ((d.has cr: (aR (cc p.r)).pred f) p.r.an av);exact m) ?_;refine ah ?_;refine a6 (l0:=bB p) ae rfl pO rfl (λf d=>by have m:=p9 f p (d.bo ae) M aa 0 (p.r.n+(y:Int)+1) 1;exact m) (λb Zx=>?_);refine aS ?_;obtain⟨Zg,R,C⟩:=Zx;have Zy:b.r.n=p.r.n:=by rw[rp R,C,O];rfl
 have Zz:b.r.room=p.r.room:=aU b0.room C
 have ZA:b5 b.s.l=b5 p.s.l:=aU b0.cG C
 have Z9:b.s.l.length=p.s.l.length:=by have:=aU List.length ZA;simpa [b5] using this
 have Zaa:b.bf.l.length=p.bf.l.length+1:=by have:=aU (λz=>z.gi.length) C;simpa [bq.abs,fM] using this
 have I:c7 b.abs:=by rw[C];exact qc N _ _ _
 obtain⟨z,B⟩ : ∃z,b.s.l[0]? = some z:=⟨b.s.l[0]'aa,bE _⟩;have D:=da B
 rw[←Zg];refine hE (e:=144) (sz:=2) (v:=b.s.val) cr (λdG c9 ZB _ _ _ ZC=>?_);injection ZB with ZD _ ZE
 subst ZD ZE;obtain⟨ZF,Zh⟩:=ZC aa;have ZG:b.s.val= .slice (some ⟨ZF,0,none⟩) b.s.l.length b.s.c:=by rw[de.val,Zh]
 refine hL (λ_:dj=>[(0,ptr b.g),(2,.int .i64 (y:Int)),(7,ptr t),(9,.bool (decide (b.r.n=b.r.room)))]) (λj=>af w (aB (bB p)) (aD t [.int .i64 an,.int .i64 aM] 123::bB (iq b j))) (λj=>cX j∧j.room=b.r.room∧j.rows=o0 b.r.rows b.r.room z.fw) ?_ ?_;refine bF [0,1,2,3,4,5,6,7,8,9] 3 [[(10,true,[11,12,13]),(14,false,[]),(15,false,[16])],[(14,false,[]),(10,true,[11,12,13]),(15,false,[16])]] ?_;refine aK ?_;refine aL rfl (λZH Zi=>(bC (q:=0) dK rfl rfl rfl Zh bc aa aG)) ?_;refine aL rfl (λZH Zi=>(cx gV rfl rfl rfl (λP J j u ZI=>by subst J;exact Zi.xM (E:=cl) cr ZG B j u ZI) aG)) ?_;refine ar ?_;refine F5 ?_ ?_;refine ld (lc:=cc b.r) cw ?_;refine a6 (l0:=cc b.r) ae rfl Af rfl (λf d=>by obtain⟨ZJ,ZK,S,T⟩:=u7 (v:=z.val) (L:=z.cells) ((d.has kz:b.s.b9.pred f) z.aF (dH.2 ⟨z,D,rfl⟩));injection S with U _ V;subst U V;exact A9 f b.r (d.bo ae) R _ z.A z.cells.length z.c z.cells z.cont T (λk W X=>d.apart ae (c:=b.s.b9) cr k (e_.2 ⟨z.aF,dH.2 ⟨z,D,rfl⟩,by show k∈z.val.ownBlock.toList;rw[W];simp⟩) X) (oZ I D).1) (λi o=>?_);refine aC ?_;intro ZL ZM ZN;refine b3 (λ_=>True) (λ_ h=> .inr ⟨.inl rfl,dp⟩) (λ_ h=>a1) ?_;refine aq ?_;refine e3 gV rfl rfl cA o.2.2.2.2.1 o.2.2.2.2.2 (by (rw[o.2.2.2.2.1];exact dV rfl)) ?_;refine b3 (λ_=>True) (λ_ h=> .inr ⟨.inr ⟨.inl rfl,dp⟩,dp⟩) (λ_ h=>a1) ?_;refine ah ?_;refine dr i.2 ⟨o.2.2.1,o.2.1,o.2.2.2.1⟩ (cj rfl rfl rfl rfl) (λP m=>?_);have Y:=m.ax (l:=[i.2.an,i.2.s.au,i.2.s.b9,b.an,b.s.au,b.s.b9,b.bf.au,aD t [.int .i64 an,.int .i64 aM] 123]) ae
 have Z:af w (aB (bB p)) (aR (cc i.2)::[b.an,b.s.au,b.s.b9,b.bf.au,aD t [.int .i64 an,.int .i64 aM] 123]) P:=af.close' (l:=cc i.2) Y
 have J:bB (iq b i.2)=[b.an,aR (cc i.2),b.s.au,b.s.b9,b.bf.au]:=by simp only[bB,iq,bq.an,nH,o.1]
 rw[J];exact Z.ax ae;refine ar ?_;intro ZL ZM ZN;refine b3 (λ_=>True) (λ_ h=> .inr (h.rem bw.head)) (λ_ h=>a1) ?_;refine aq ?_;refine ld (lc:=cc b.r) p0 ?_;refine a6 (l0:=cc b.r) ae rfl Af rfl (λf d=>by obtain⟨ZJ,ZK,S,T⟩:=u7 (v:=z.val) (L:=z.cells) ((d.has e4:b.s.b9.pred f) z.aF (dH.2 ⟨z,D,rfl⟩));injection S with U _ V;subst U V;exact A9 f b.r (d.bo ae) R _ z.A z.cells.length z.c z.cells z.cont T (λk W X=>d.apart ae (c:=b.s.b9) gD k (e_.2 ⟨z.aF,dH.2 ⟨z,D,rfl⟩,by show k∈z.val.ownBlock.toList;rw[W];simp⟩) X) (oZ I D).1) (λi o=>?_);refine al ?_;refine e3 gV rfl rfl nB o.2.2.2.2.1 o.2.2.2.2.2 (by (rw[o.2.2.2.2.1];exact dV rfl)) ?_;refine b3 (λ_=>True) (λ_ h=> .inr ⟨.inl rfl,dp⟩) (λ_ h=>a1) ?_;refine ah ?_;refine dr i.2 ⟨o.2.2.1,o.2.1,o.2.2.2.1⟩ (cj rfl rfl rfl rfl) (λP m=>?_);have Y:=m.ax (l:=[i.2.an,i.2.s.au,i.2.s.b9,b.an,b.s.au,b.s.b9,b.bf.au,aD t [.int .i64 an,.int .i64 aM] 123]) ae
 have Z:af w (aB (bB p)) (aR (cc i.2)::[b.an,b.s.au,b.s.b9,b.bf.au,aD t [.int .i64 an,.int .i64 aM] 123]) P:=af.close' (l:=cc i.2) Y
 have J:bB (iq b i.2)=[b.an,aR (cc i.2),b.s.au,b.s.b9,b.bf.au]:=by simp only[bB,iq,bq.an,nH,o.1]
 rw[J];exact Z.ax ae;rintro j ⟨Zj,ZO,ZP⟩;have Za: (iq b j).abs=nO b.abs:=by
  have F:b.abs.cG.headD ([],false)=z.fw:=by
   cases Zb:b.s.l with
   | nil=>rw[Zb] at B;simp at B
   | cons a l=>rw[Zb] at B;simp at B;simp[bq.abs,b5,Zb,B]
  have G:b.abs.jL=b.r.rows:=rfl
  have H:b.abs.room=b.r.room:=rfl
  simp only[nO,F,G,H,←ZP];simp only[bq.abs,iq,ZO]
 have Zab:c7 (iq b j).abs:=by rw[Za];exact xP I
 have Zk: (b.r.n=b.r.room)↔fU p.abs=p.abs.room:=by rw[Zy,Zz,←O];exact Iff.rfl
 have ZQ:b.abs=fM p.abs 0 (fU p.abs+(y:Int)+1) 1:=by rw[C,O]
 obtain⟨Zc,K⟩ : ∃Zc,Zc=(if fU p.abs=p.abs.room then fM (nO b.abs) 2 0 1 else nO b.abs):=⟨_,rfl⟩;refine al ?_;refine hL (λ_:bq=>[(0,ptr b.g),(2,.int .i64 (y:Int)),(7,ptr t)]) (λq=>af w (aB (bB p)) (aD t [.int .i64 an,.int .i64 aM] 123::bB q)) (λq=>q.g=b.g∧cX q.r∧q.abs=Zc) ?_ ?_;refine aj (λZd=>?_) (λZd=>?_);refine aq ?_;refine a6 (l0:=bB (iq b j)) ae rfl pO rfl (λf d=>by have m:=p9 f (iq b j) (d.bo ae) Zj (by show b.bf.l.length≤_;omega) 2 0 1;exact m) (λZR ZS=>?_);refine ar ?_;obtain⟨ZT,ZU,ZV⟩:=ZS;exact dr ZR ⟨ZT,ZU,by rw[ZV,K,aw (Zk.1 Zd),Za]⟩ bR (λ_ h=>h.ax ae);refine ar ?_;exact dr (iq b j) ⟨rfl,Zj,by rw[K,ag (λh=>Zd (Zk.2 h)),Za]⟩ bR (λ_ h=>h);rintro q ⟨Zl,ZW,Ze⟩;have Zm:c7 q.abs:=by
  rw[Ze,K];split
  exact qc (xP I) _ _ _;exact xP I
 have Zac:q.s.l.length=p.s.l.length:=by
  have ZX:q.abs.cG=b.abs.cG:=by
   rw[Ze,K];split <;> rfl
  have ZY:=aU List.length ZX
  simp only[bq.abs,b5,cB] at ZY
  omega
 rw[←Zl];refine al ?_;refine a6 (l0:=bB q) ae rfl An rfl (λf d=>by have m:=Bc f q (d.bo ae) ZW Zm 0 y aa aa an aM;exact m) (λZf ZZ=>?_);obtain⟨c1,Z0,Zn⟩:=ZZ;have Z1:c7 Zf.abs:=by rw[Zn];exact xO Zm (by simp[bq.abs];omega) (by simp[bq.abs];omega) _ _
 refine al ?_;refine a6 (l0:=bB Zf) ae rfl pS rfl (λf d=>by have m:=p8 f Zf (d.bo ae) Z0 Z1 ((y:Int)+1);rw[c1] at m;exact m) (λZ2 Z3=>?_);refine aq ?_;intro Zw Q;obtain⟨F,G,H⟩:=Z3;refine aN Z2 ⟨by rw[F,c1,Zl,Zg],G,?_⟩ Q;rw[H,Zn,Ze,mS,ag (by omega: ¬0<0),K,ZQ];done
end Go.Proofs.YtlgnfdodnhokjaaGreatDoor.Mq
