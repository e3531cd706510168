/- part 17 of the proof -/
import Derived.Test.YtnfmgboendlmaaaGreatDoorQ16
import Derived.Shelf.Strconv.Itoa3
import Derived.Lib.ItoaLen
import Derived.Shelf.Strings.OnBuilder
set_option linter.all false
namespace Go.Proofs.YtnfmgboendlmaaaGreatDoor.Mq
open RowKit Tryz
variable {q:IntKind}{r:List Int}{i:Nat}{o:Program}{p:String}{l n:World}(a:World)(d:a1)(h:hN × Int × Int)(j:List Int)(u:List UInt8)(v:Bool)(c:gE)(e:bA)(f:Nat)(b:Int)(g:hN)(m:Nat)(k:Int)(s:Array Obj)(t:Value)
def r2 :a1:=
 if b=0 then d else
 if 0<b then { d with x:=(dw.pw (dw.kP d.zA) d.zA.length (gb d) b:Int) }
 else { d with x:=(dw.pw (dw.j_ d.zA) d.zA.length (gb d) (max 0<|0 - max b (-1000)):Int) }
def tr(a:a1)(b:Int):Nat->a1
 | 0=>a
 | n+1=>rX (tr a b n) b
def CK(a:a1)(b:Int): ∀n,ds (2*n) a (tr a b n)
 | 0=>ds.refl a
 | n+1=>((CK a b n).trans<|H2 _ b).mono aa
def QX(m:bc a (a8 e))(o: ∀h,Ext (aK<|a8 e) a h->dw.oQ h)(b:eM e)(p:eX e.abs)(c:Int):
 ay 177 [ptr e.g,ad c] a (e2 e (.tuple #[]) (r2 e.abs c) a):=by
 obtain⟨u,j,v,w,y⟩:=p.nums;have z:=b.n
 refine bX func177 ntmps177 m ?_;refine (aE) (λq=>ap ?_) λq=>?_;exact λk d=>gk e ⟨rfl,rfl,rfl⟩ b (by rw[r2,aB aa]) rfl d ah
 refine (aE) (λs=>?_) λs=>?_;refine bN [0,1,2,3,4,5,7] 3 [[(6,false,[]),(8,false,[9,10]),(11,true,[])]] ?_;refine a6 ?_;refine fh (kQ · e · · j)<|ap ?_;refine bd (λf l=>dw.Qg f (o f l.ext) e.st.g e.st.bs e.st.i b.st (dw.ih.of (l.has hM) b.st.len) aa (min e.x<|e.az.al - 1) c)<|bP ?_;exact λk d=>gk { e with x:=(dw.pw (dw.kP e.st.bs) e.st.bs.length (min e.x<|e.az.al - 1) c:Int) } ⟨rfl,rfl,rfl⟩ ⟨b.r,b.st,b.n⟩ (by rw[r2,ai aa,aB aa];rfl) rfl d ah
 refine bN [0,1,2,3,4,5,7,8,9,10] 3 [[(6,false,[]),(11,false,[12,13]),(14,true,[])]] ?_;refine aY ?_;refine aO rfl (λA B=>(qi rfl rfl (wrap64 aa aa) aJ))<|ap ?_;refine fh (kQ · e · · j)<|ap ?_;refine cU (hargs:=rfl) (λf t=>dw.wW f e.st.g e.st.bs e.st.i b.st (dw.ih.of t b.st.len) aa (min e.x<|e.az.al - 1) _)<|bP ?_;exact λk d=>gk { e with x:=(dw.pw (dw.j_ e.st.bs) e.st.bs.length (min e.x<|e.az.al - 1) (max 0<|0 - max c (-1000)):Int) } ⟨rfl,rfl,rfl⟩ ⟨b.r,b.st,b.n⟩ (by rw[r2,ai aa,ai aa];rfl) rfl d ah
def QY : (rX d d.last).last=d.last:=by
 rw[to];split
 unfold hO;split <;> rfl
 rfl
def H_(a:a1): ∀n,(tr a a.last n).last=a.last
 | 0=>rfl
 | n+1=>by
  have c:=H_ a n
  have b:=QY<|tr a a.last n
  rw[c] at b
  exact b
def ts :a1:=if d.last=0 then d else tr d d.last (fU b 1<|d.rows*d.al).toNat
def QZ(a:eX d):ds 2000000 d (ts d b):=by
 have e:=a.bz.rows;have c:=a.bz.al
 have f:d.rows*d.al<=1000*1000:=Int.mul_le_mul (by simp only[a1.rows];omega) c.2 (by simp only[a1.al];omega) aa
 unfold ts;split
 exact (ds.refl d).mono aa;exact (CK d d.last _).mono (by unfold fU;omega)
def Q0(o:bc a (a8 e))(k:eM e)(m:eX e.abs)(C:e.az.bu.l.length<=1500000000000)(d:Int):
 ay 291 [ptr e.g,ad d] a (e2 e (.tuple #[]) (ts e.abs d) a):=by
 obtain⟨D,p,E,F,G⟩:=m.nums;have q:=nR e
 have H: (e.az.s.l.length:Int)*e.az.al<=1000*1000:=Int.mul_le_mul aa p.2 aa aa
 have I:1*1<=(e.az.s.l.length:Int)*e.az.al:=Int.mul_le_mul aa aa aa aa
 have J:=nT (n:=d) (lo:=1) (hi:=(e.az.s.l.length:Int)*e.az.al) aa
 obtain⟨N,n⟩ : ∃N:Nat,fU d 1 ((e.az.s.l.length:Int)*e.az.al)=(N:Int):=⟨(fU d 1<|(e.az.s.l.length:Int)*e.az.al).toNat,aa⟩;refine bX func291 ntmps291 o ?_;refine (aE) (λi=>ap ?_) λi=>aH ?_;exact λr j=>gk e ⟨rfl,rfl,rfl⟩ k (by rw[ts,aB<|by exact i]) rfl j ah
 refine fh (pz · e e.az rfl · ·)<|av ?_;refine fh (lH · e e.az rfl · ·)<|mD rfl rfl rfl (wrap64 aa aa)<|bF (py · _ _ _) ?_;refine a7 ?_;rw[n];refine cd (ι:=Nat × bA) (λb=>[(0,ptr e.g),(19,ad (N:Int)),(20,ad (b.1 :Int))]) (λb=>ag a (aK<|a8 e)<|a8 b.2) (λb=>b.1<=N/\jl e (tr e.abs e.abs.last b.1) b.2) (λb=>N - b.1) ?_ ?_;exact λK t=>⟨(0,e),⟨b4 _,jl.refl k⟩,(ed rfl rfl rfl),t⟩
 rintro⟨b,h⟩ ⟨u,c⟩;dsimp only at u c ⊢
 obtain⟨v,L⟩:=c.fits (CK e.abs e.abs.last b) m;have w:h.last=e.last:=by have f:=H_ e.abs b;rw[<-c.abs] at f;exact f
 rw[<-c.g];refine (aE) (λx=>be ?_) λx=>aI ?_;refine (dg) (H3 · h · c.wf v aa h.last) λy z=>aU ?_;exact bv (b+1,y) ⟨by show b+1<=N;omega,by have f:=c.trans z;rw[c.abs,w] at f;exact f⟩ (by show N - (b+1)<N - b;omega) b5 λ_ A=>A.aF ah;intro r j;have B:b=N:=by omega
 subst B;exact aX.cf h ⟨c.g,c.az,c.st,c.wf,by rw[ts,ai<|by exact i,a1.rows,q];rw[show fU d 1 ((e.az.s.l.length:Int)*e.abs.al)=(b:Int) from n,gw];exact c.abs⟩ rfl j
def r3:gE:=⟨66,66,66,66,0,0⟩
def tt:List Int:=[9670,9618,9225,9228,9229,9226,176,177,9252,9227,9496,9488,9484,9492,9532,9146,9147,9472,9148,9149,9500,9508,9524,9516,9474,8804,8805,960,8800,163,183]
def pC :Int:=
 if b=65/\k=35 then 163 else if b=48/\k=95 then 32 else if b=48/\96<=k/\k<=126 then (tt[(k - 96).toNat]?).getD 0 else k
def m8 :Int:=if c.lG=2\/c.lG=3 then c.lG else if 0<=c.use/\c.use<=3 then c.use else 0
def zN :Int:=if b=0 then c.gj else if b=1 then c.s1 else if b=2 then c.s2 else c.lf
def qH :Int × gE:=(pC (zN c<|m8 c) b,{ c with lG:=0 })
def Q1 :0<=m8 c/\m8 c<=3:=by
 unfold m8;split
 omega
 split <;> omega
def Q2 :ay 340 [.agg c.enc.toArray] a (Pure (ad<|m8 c) a):=by
 refine ba func340 ntmps340 ?_;refine ap ?_;intro k l m;refine bP ?_;refine bl 7 rfl (λe=>?_) λe=>?_;have g:=bg e
 refine fT ?_;exact λd b=>⟨by unfold m8;rw[aB aa],b.ext⟩
 have g:=bm e
 refine (aE) (λh=>bP ?_) λh=>aH ?_;exact λd b=>⟨by unfold m8;rw[aB aa],b.ext⟩
 refine bl 18 rfl (λf=>?_) λf=>?_;have i:=bg f
 refine (aE) (λj=>bP ?_) λj=>be ?_;exact λd b=>⟨by unfold m8;rw[ai aa,aB aa],b.ext⟩
 exact λd b=>⟨by unfold m8;rw[ai aa,ai aa],b.ext⟩
 have i:=bm f
 refine gQ ?_;exact λd b=>⟨by unfold m8;rw[ai aa,ai aa],b.ext⟩
def zO :ay 416 [] a (Pure (.agg ([.int .i32 9670,.int .i32 9618,.int .i32 9225,.int .i32 9228,.int .i32 9229,.int .i32 9226,.int .i32 176,.int .i32 177,.int .i32 9252,.int .i32 9227,.int .i32 9496,.int .i32 9488,.int .i32 9484,.int .i32 9492,.int .i32 9532,.int .i32 9146,.int .i32 9147,.int .i32 9472,.int .i32 9148,.int .i32 9149,.int .i32 9500,.int .i32 9508,.int .i32 9524,.int .i32 9516,.int .i32 9474,.int .i32 8804,.int .i32 8805,.int .i32 960,.int .i32 8800,.int .i32 163,.int .i32 183]:List Value).toArray) a):=by
 refine ba func416 ntmps416 ?_;refine ap ?_;intro c d e;refine a7 ?_;refine Bx (out:=[.int .i32 9670,.int .i32 9618,.int .i32 9225,.int .i32 9228,.int .i32 9229,.int .i32 9226,.int .i32 176,.int .i32 177,.int .i32 9252,.int .i32 9227,.int .i32 9496,.int .i32 9488,.int .i32 9484,.int .i32 9492,.int .i32 9532,.int .i32 9146,.int .i32 9147,.int .i32 9472,.int .i32 9148,.int .i32 9149,.int .i32 9500,.int .i32 9508,.int .i32 9524,.int .i32 9516,.int .i32 9474,.int .i32 8804,.int .i32 8805,.int .i32 960,.int .i32 8800,.int .i32 163,.int .i32 183]) Ob rfl rfl (by simp[hY,putAt,dJ,Value.cells,gg])<|fR Oa rfl rfl cJ bo (aV.cons rfl<|aV.cons rfl<|aV.cons rfl<|aV.cons rfl<|aV.cons rfl<|aV.cons rfl<|aV.cons rfl<|aV.cons rfl<|aV.cons rfl<|aV.cons rfl<|aV.cons rfl<|aV.cons rfl<|aV.cons rfl<|aV.cons rfl<|aV.cons rfl<|aV.cons rfl<|aV.cons rfl<|aV.cons rfl<|aV.cons rfl<|aV.cons rfl<|aV.cons rfl<|hg rfl rfl rfl rfl rfl rfl rfl rfl rfl rfl) (ej rfl)<|a7 ?_;exact λf b=>⟨rfl,b.ext⟩
def zP(c:f<=30): ([.int .i32 9670,.int .i32 9618,.int .i32 9225,.int .i32 9228,.int .i32 9229,.int .i32 9226,.int .i32 176,.int .i32 177,.int .i32 9252,.int .i32 9227,.int .i32 9496,.int .i32 9488,.int .i32 9484,.int .i32 9492,.int .i32 9532,.int .i32 9146,.int .i32 9147,.int .i32 9472,.int .i32 9148,.int .i32 9149,.int .i32 9500,.int .i32 9508,.int .i32 9524,.int .i32 9516,.int .i32 9474,.int .i32 8804,.int .i32 8805,.int .i32 960,.int .i32 8800,.int .i32 163,.int .i32 183]:List Value)[f]? = some (.int .i32<|(tt[f]?).getD 0):=by
 have a: ([.int .i32 9670,.int .i32 9618,.int .i32 9225,.int .i32 9228,.int .i32 9229,.int .i32 9226,.int .i32 176,.int .i32 177,.int .i32 9252,.int .i32 9227,.int .i32 9496,.int .i32 9488,.int .i32 9484,.int .i32 9492,.int .i32 9532,.int .i32 9146,.int .i32 9147,.int .i32 9472,.int .i32 9148,.int .i32 9149,.int .i32 9500,.int .i32 9508,.int .i32 9524,.int .i32 9516,.int .i32 9474,.int .i32 8804,.int .i32 8805,.int .i32 960,.int .i32 8800,.int .i32 163,.int .i32 183]:List Value)=tt.map (Value.int .i32):=rfl
 have d:tt.length=31:=rfl
 obtain⟨v,b⟩ : ∃v,tt[f]? = some v:=⟨tt[f]'aa,bD _⟩;rw[a,fw,b];rfl
def Q3(a:b=65/\k=35):pC b k=163:=aB a
def Q4(a:b=48/\k=95):pC b k=32:=by unfold pC;rw[ai aa,aB a]
def Q5(a:Nat)(c:b=48)(d:a<=30):pC b (96+(a:Int))=(tt[a]?).getD 0:=by unfold pC;rw[ai aa,ai aa,aB aa,show (96+(a:Int) - 96).toNat=a by omega]
def zQ(r:Int)(a: ¬(b=65/\r=35))(c: ¬(b=48/\r=95))(d: ¬(b=48/\96<=r/\r<=126)):pC b r=r:=by unfold pC;rw[ai a,ai c,ai d]
def Q6 :ay 339 [ad b,.int .i32 k] a (Pure (.int .i32<|pC b k) a):=by
 refine ba func339 ntmps339 ?_;refine b6 ?_;refine bl 8 rfl (λp=>?_) λp=>?_;have r:=bg p
 refine (aE) (λm=>a6 ?_) λm=>aI ?_;exact λe c=>⟨by rw[Q3 _ _ aa],c.ext⟩
 refine bl 15 rfl (λh=>?_) λh=>?_;have q:=bg h
 refine (aE) (λf=>a6 ?_) λf=>aI ?_;intro e c
 (exfalso;omega)
 refine bl 22 rfl (λg=>?_) λg=>?_;have n:=bg g
 refine aH ?_;refine bl 26 rfl (λj=>?_) λj=>?_;have s:=bg j
 refine (aE) (λt=>av ?_) λt=>bP ?_;obtain⟨d,l⟩ : ∃d:Nat,k=96+(d:Int):=⟨(k - 96).toNat,aa⟩;have i:d<=30:=by omega
 subst l;refine av ?_;refine bF (zO ·)<|av ?_;refine hB rfl rfl rfl (nG aa aa)<|nH (q:=d) underlying436 h_ rfl rfl rfl aa aa (zP d i)<|aU ?_;intro e c
 (exfalso;omega)
 intro e c
 (exfalso;omega)
 have s:=bm j
 refine gQ ?_;intro e c
 (exfalso;omega)
 have n:=bm g
 refine nI ?_;intro e c
 (exfalso;omega)
 have q:=bm h
 refine b6 ?_;refine bl 22 rfl (λf=>?_) λf=>?_;have o:=bg f
 refine aH ?_;refine bl 26 rfl (λg=>?_) λg=>?_;have n:=bg g
 refine (aE) (λj=>av ?_) λj=>bP ?_;obtain⟨d,l⟩ : ∃d:Nat,k=96+(d:Int):=⟨(k - 96).toNat,aa⟩;have i:d<=30:=by omega
 subst l;refine av ?_;refine bF (zO ·)<|av ?_;refine hB rfl rfl rfl (nG aa aa)<|nH (q:=d) underlying436 h_ rfl rfl rfl aa aa (zP d i)<|aU ?_;intro e c
 (exfalso;omega)
 intro e c
 (exfalso;omega)
 have n:=bm g
 refine gQ ?_;intro e c
 (exfalso;omega)
 have o:=bm f
 refine nI ?_;exact λe c=>⟨by rw[zQ _ _ aa aa aa],c.ext⟩
 have r:=bm p
 refine b6 ?_;refine bl 15 rfl (λm=>?_) λm=>?_;have u:=bg m
 refine (aE) (λh=>a6 ?_) λh=>aI ?_;exact λe c=>⟨by rw[Q4 _ _ aa],c.ext⟩
 refine bl 22 rfl (λf=>?_) λf=>?_;have o:=bg f
 refine aH ?_;refine bl 26 rfl (λg=>?_) λg=>?_;have n:=bg g
 refine (aE) (λj=>av ?_) λj=>bP ?_;obtain⟨d,l⟩ : ∃d:Nat,k=96+(d:Int):=⟨(k - 96).toNat,aa⟩;have i:d<=30:=by omega
 subst l;refine av ?_;refine bF (zO ·)<|av ?_;refine hB rfl rfl rfl (nG aa aa)<|nH (q:=d) underlying436 h_ rfl rfl rfl aa aa (zP d i)<|aU ?_;exact λe c=>⟨by rw[Q5 _ _ aa i],c.ext⟩
 exact λe c=>⟨by rw[zQ _ _ aa aa aa],c.ext⟩
 have n:=bm g
 refine gQ ?_;exact λe c=>⟨by rw[zQ _ _ aa aa aa],c.ext⟩
 have o:=bm f
 refine nI ?_;intro e c
 (exfalso;omega)
 have u:=bm m
 refine b6 ?_;refine bl 22 rfl (λh=>?_) λh=>?_;have q:=bg h
 refine aH ?_;refine bl 26 rfl (λf=>?_) λf=>?_;have o:=bg f
 refine (aE) (λg=>av ?_) λg=>bP ?_;obtain⟨d,l⟩ : ∃d:Nat,k=96+(d:Int):=⟨(k - 96).toNat,aa⟩;have i:d<=30:=by omega
 subst l;refine av ?_;refine bF (zO ·)<|av ?_;refine hB rfl rfl rfl (nG aa aa)<|nH (q:=d) underlying436 h_ rfl rfl rfl aa aa (zP d i)<|aU ?_;intro e c
 (exfalso;omega)
 intro e c
 (exfalso;omega)
 have o:=bm f
 refine gQ ?_;intro e c
 (exfalso;omega)
 have q:=bm h
 refine nI ?_;exact λe c=>⟨by rw[zQ _ _ aa aa aa],c.ext⟩
def Q7(q:Nat)(a:q<=3): (c.enc)[0+0+q*1]? = some (ad<|zN c q):=by
 rcases q with _ | _ | _ | _ | q
 rfl
 rfl
 rfl
 rfl
 omega
def Q8 :ay 250 [.agg c.enc.toArray,.int .i32 b] a (Pure (.tuple #[.int .i32 (qH c b).1,.agg (qH c b).2.enc.toArray]) a):=by
 have h:=Q1 c
 obtain⟨d,e⟩ : ∃d:Nat,m8 c=(d:Int):=⟨(m8 c).toNat,aa⟩;refine ba func250 ntmps250 ?_;refine ap ?_;intro i j k;refine aA ?_;intro l m n;refine aI ?_;refine bF (Q2 · c)<|av ?_;refine d9 (q:=d) underlying138 k9 rfl rfl rfl e aa<|bb (v:=ad<|zN c d) bY rfl rfl (λo f=>ag.e8 (xs:=c.enc) f cz<|Q7 c d aa)<|av ?_;refine bF (Q6 · _ b) ?_;refine be ?_;refine bN [0,1,2] 1 [[(3,true,[])]] ?_;refine bP ?_;refine iy results250 (c_.tmp rfl) (c_.fx nF rfl bw rfl rfl) λp g=>?_;exact⟨by rw[qH,e];rfl,g.ext⟩
def ke :a1:=rX { d with bk:={ d.bk with aQ:=(qH d.bk.aQ b).2 } } (qH d.bk.aQ b).1
def Q9 :ds 2 d (ke d b):=((vd d _).trans<|H2 _ _).mono aa
abbrev Ia(a:gE):bA:={ e with bk:={ e.bk with aQ:=a } }
def Q_(a:gE):dJ (ga e) (0+5) [ad a.gj,ad a.s1,ad a.s2,ad a.lf,ad a.use,ad a.lG]=ga (Ia e a):=by
 simp only[dJ,ga,ev,Nat.reduceAdd,sG,nC]
def Ra(m:bc a (a8 e))(h:eM e)(f:eX e.abs)(s:e.az.bu.l.length<=1500000000000)(b:Int):
 ay 175 [ptr e.g,.int .i32 b] a (e2 e (.tuple #[]) (ke e.abs b) a):=by
 obtain⟨c,i⟩ : ∃c,c=(qH e.bk.aQ b).2:=⟨_,rfl⟩;obtain⟨o,j⟩ : ∃c,c=(qH e.bk.aQ b).1:=⟨_,rfl⟩;refine bX func175 ntmps175 m ?_;refine fT ?_;refine bd (λp t=>by have k:=Q8 p e.bk.aQ b;rw[<-i,<-j] at k;exact k) ?_;refine be ?_;rw[Q_];refine ap ?_;refine (dg) (H3 · (Ia e c) · ⟨h.r,h.st,h.n⟩ ⟨f.bz,f.y,f.x,f.top⟩ (by show e.az.bu.l.length<=_;omega) o) λq d=>?_;refine aA ?_;exact bT q ⟨d.g,d.az,d.st,d.wf,by rw[ke,show e.abs.bk.aQ=e.bk.aQ from rfl,<-i,<-j];exact d.abs⟩
def kR:hN:=⟨⟨0,0,0,0,0⟩,r3,false,true,false⟩
def zR :gE:=if b=14 then { c with use:=1 } else if b=15 then { c with use:=0 } else c
def vi :gE:=if b=110 then { c with use:=2 } else if b=111 then { c with use:=3 } else if b=78 then { c with lG:=2 } else if b=79 then { c with lG:=3 } else c
def CL :ay 57 [] a (Pure (.agg r3.enc.toArray) a):=by
 refine ba func57 ntmps57 ?_;refine ap ?_;intro c d e;refine bP ?_;exact λf b=>⟨rfl,b.ext⟩
def CM :ay 103 [] a (Pure (.agg kR.enc.toArray) a):=by
 refine ba func103 ntmps103 ?_;refine ap ?_;intro c d e;refine a7 ?_;refine bF (CL ·)<|av ?_;refine kB (out:=kR.enc) N0 rfl rfl (by simp[hY,putAt,dJ,Value.cells,kR,r3])<|fR s5 rfl rfl cJ bo (aV.cons rfl<|aV.cons rfl<|aV.cons rfl<|aV.cons rfl<|hg rfl rfl rfl rfl rfl rfl rfl rfl rfl rfl) (ej rfl)<|a7 ?_;exact λf b=>⟨rfl,b.ext⟩
def Ib :ay 182 [.agg c.enc.toArray,.int .u8 b] a (Pure (.agg (zR c b).enc.toArray) a):=by
 refine ba func182 ntmps182 ?_;refine ap ?_;intro h i j;refine av ?_;intro k l m;refine (aE) (λf=>cZ ?_) λf=>?_;exact λe d=>⟨by unfold zR;(rw[aB aa];rfl),d.ext⟩
 refine (aE) (λg=>cZ ?_) λg=>bP ?_;exact λe d=>⟨by unfold zR;(rw[ai aa,aB aa];rfl),d.ext⟩
 exact λe d=>⟨by unfold zR;(rw[ai aa,ai aa];rfl),d.ext⟩
def zS :ay 264 [.agg c.enc.toArray,.int .u8 b] a (Pure (.agg (vi c b).enc.toArray) a):=by
 refine ba func264 ntmps264 ?_;refine ap ?_;intro j k l;refine av ?_;intro m n o;refine (aE) (λf=>cZ ?_) λf=>?_;exact λe d=>⟨by unfold vi;(rw[aB aa];rfl),d.ext⟩
 refine (aE) (λg=>cZ ?_) λg=>?_;exact λe d=>⟨by unfold vi;(rw[ai aa,aB aa];rfl),d.ext⟩
 refine (aE) (λh=>cZ ?_) λh=>?_;exact λe d=>⟨by unfold vi;(rw[ai aa,ai aa,aB aa];rfl),d.ext⟩
 refine (aE) (λi=>cZ ?_) λi=>bP ?_;exact λe d=>⟨by unfold vi;(rw[ai aa,ai aa,ai aa,aB aa];rfl),d.ext⟩
 exact λe d=>⟨by unfold vi;(rw[ai aa,ai aa,ai aa,ai aa];rfl),d.ext⟩
def tu:hN:=⟨⟨0,0,0,0,0⟩,⟨0,0,0,0,0,0⟩,false,false,false⟩
def CN :a1:=vb { d with bk:=kR,hb:=tu,ma:=0,mb:=0,has:=false,last:=0 }
def Rb :ds 0 d (CN d):=by
 have b:ds 0 d { d with bk:=kR,hb:=tu,ma:=0,mb:=0,has:=false,last:=0 }:=⟨λa=>⟨a.bz,a.y,a.x,a.top⟩,rfl,rfl,rfl,cC _⟩
 exact b.trans<|H6 _
def Ic :dJ (ga e) (0+0) g.enc=ga { e with bk:=g }:=QT e g
def Rc(a b:Int):dJ (ga e) (0+20) (g.enc++[ad a,ad b])=ga { e with hb:=g,ma:=a,mb:=b }:=H8 e g a b
abbrev Re :bA:={ e with bk:=kR,hb:=tu,ma:=0,mb:=0,has:=false,last:=0 }
def Rf(d:bc a (a8 e))(c:eM e)(f:dF e.az.abs):
 ay 280 [ptr e.g] a (e2 e (.tuple #[]) (CN e.abs) a):=by
 refine bX func280 ntmps280 d ?_;refine cn ?_;refine bF (CM ·)<|kB (out:=tu.enc++[z0,z0]) BH rfl rfl rfl<|aA ?_;refine fR s5 rfl rfl cJ bo (aV.cons rfl<|aV.cons rfl<|aV.cons rfl<|aV.cons rfl<|hg rfl rfl rfl rfl rfl rfl rfl rfl rfl rfl) (ej rfl)<|aA ?_;rw[Ic];refine fR wJ rfl rfl cJ bo (aV.cons rfl<|aV.cons rfl<|aV.cons rfl<|aV.cons rfl<|aV.cons rfl<|aV.cons rfl<|hg rfl rfl rfl rfl rfl rfl rfl rfl rfl rfl) (ej rfl)<|aA ?_;rw[Rc];refine aY ?_;refine dE (zJ · (Re e) · ⟨c.r,c.st,c.n⟩ f) λh b=>?_;refine aA ?_;exact bT h ⟨b.g,b.az,b.st,b.wf,by rw[b.abs];rfl⟩
def r4 :hN × Int × Int:=if d.has=true then (d.hb,d.ma,d.mb) else (kR,0,0)
def Rg :a1:={ d with bk:={ d.bk with at_:=g.at_,aQ:=g.aQ,home:=g.home } }
def zT :a1:=xi (Rg d (r4 d).1) (r4 d).2.1 (r4 d).2.2
def Rh :ds 0 d (zT d):=(vd d _).trans<|zI _ _ _
abbrev qI :List Value:=h.1.enc++[ad h.2.1,ad h.2.2]
def Id(z0 a b c d e f g h i j l m n o p:Value)(k:hN × Int × Int):dJ [z0,a,b,c,d,e,f,g,h,i,j,l,m,n,o,p] 0 (qI k)=qI k:=by
 simp only[dJ,qI,hN.enc,nz,mA,ev,Nat.reduceAdd,sG,nC]
def Ri(k:hN × Int × Int):dJ (qI h) 0 (qI k)=qI k:=Id _ _ _ _ _ _ _ _ _ _ _ _ _ _ _ _ k
abbrev Rj :bA:={ e with bk:={ e.bk with at_:=g.at_,aQ:=g.aQ,home:=g.home } }
def Rk(k:bc a (a8 e))(f:eM e)(l:eX e.abs):
 ay 351 [ptr e.g] a (e2 e (.tuple #[]) (zT e.abs) a):=by
 refine bX func351 ntmps351 k ?_;refine aU ?_;refine cD rfl (λi=>?_) λi=>a7 ?_;exact Bool.noConfusion i;refine bF (CM ·)<|kB (out:=qI (kR,0,0)) BH rfl rfl (by simp[hY,putAt,dJ,Value.cells,kR,r3])<|av ?_;intro j w x;refine fR wJ rfl rfl cJ bo (aV.cons rfl<|aV.cons rfl<|aV.cons rfl<|aV.cons rfl<|aV.cons rfl<|aV.cons rfl<|hg rfl rfl rfl rfl rfl rfl rfl rfl rfl rfl) (ej rfl)<|bP ?_;rw[Id];refine gA (λ_:hN × Int × Int=>[(0,ptr e.g),(2,ptr j)]) (λc=>ag a (aK<|a8 e) [e.aq,aG j (qI c) 147,e.az.aq,aZ<|cP e.az.r,e.az.s.aD,e.az.s.cw,e.az.bu.aD,e.st.aQ]) (λc=>c=r4 e.abs) ?_ ?_;refine cD rfl (λh=>a7 ?_) λh=>av ?_;refine cE (vs:=qI (e.hb,e.ma,e.mb)) wJ rfl rfl rfl (λy m o p q=>ag.mI (sz:=16) (xs:=ga e) m cz rfl o p q)<|fR wJ rfl rfl cJ bo (aV.cons rfl<|aV.cons rfl<|aV.cons rfl<|aV.cons rfl<|aV.cons rfl<|aV.cons rfl<|hg rfl rfl rfl rfl rfl rfl rfl rfl rfl rfl) (ej rfl)<|av ?_;rw[Ri];exact dN (e.hb,e.ma,e.mb) (by rw[r4,aB<|by exact h];rfl) b5 λ_ b=>b.aF ah;exact dN (kR,0,0) (by rw[r4,ai<|by rw[show e.abs.has=e.has from rfl,h];decide]) b5 λ_ b=>b.aF ah;rintro c t;refine aA ?_;refine fg [0,1,2,3,4,5,6,7,8,9,10,11,12,13,14,15] 3 [[(16,false,[17,18,19]),(20,false,[21,22,23,24]),(25,false,[])]] (_) mixed ak (λ_ u=>u.drew) (λ_ b=>b.rem bH.head)<|fT ?_;refine cv (λ_=>True) (λ_ b=> .inr<|b.rem bH.head) (λ_ b=>bh)<|aH ?_;refine cv (λ_=>True) (λ_ b=> .inr ⟨.inr<|b.rem bH.head,dC⟩) (λ_ b=>bh)<|aU ?_;refine cv (λ_=>True) (λ_ b=> .inr ⟨.inr ⟨.inr<|b.rem bH.head,dC⟩,dC⟩) (λ_ b=>bh)<|a6 ?_;refine dE (zK · (Rj e c.1) · ⟨f.r,f.st,f.n⟩ l.bz c.2.1 c.2.2) λv d=>?_;refine aA ?_;exact bT v ⟨d.g,d.az,d.st,d.wf,by rw[zT,<-t];exact d.abs⟩
def zU(b:e.aq.pred a):ay 259 [ptr e.g] a (Pure (ptr e.st.g) a):=by
 refine ba func259 ntmps259 ?_;refine gR ?_;refine bb BG rfl rfl (λf c=>c.cc b (by (simp;done)) rfl) ?_;refine aI ?_;exact λh d=>⟨rfl,d.ext⟩
def Rl:Shelf.Ren:=⟨λ| 129=>403 | 171=>100 | 243=>162 | 246=>240 | 283=>327 | 284=>328 | 285=>329 | 286=>330 | 317=>408 | 318=>409 | 319=>410 | 320=>411 | 337=>468 | 338=>423 | n=>n,λ| 0=>0 | 2=>2 | 3=>3 | 4=>4 | 5=>5 | 9=>9 | 20=>20 | 37=>48 | 46=>276 | 51=>118 | 53=>63 | 171=>384 | 173=>387 | 212=>432 | 213=>433 | 232=>477 | 233=>465 | n=>n,λ| 17=>0 | 18=>2 | 19=>1 | n=>n⟩
def Rm:LaysM.n171 prog Rl where
 mixed:=by kernel_rfl
 f129:=func403.trans<|a_ some ak
 f171:=func100.trans<|a_ some ak
 f243:=func162.trans<|a_ some ak
 f246:=func240.trans<|a_ some ak
 f283:=func327.trans<|a_ some ak
 f284:=func328.trans<|a_ some ak
 f285:=func329.trans<|a_ some ak
 f286:=func330.trans<|a_ some ak
 f317:=func408.trans<|a_ some ak
 f318:=func409.trans<|a_ some ak
 f319:=func410.trans<|a_ some ak
 f320:=func411.trans<|a_ some ak
 f337:=func468.trans<|a_ some ak
 f338:=func423.trans<|a_ some ak
 t0:=underlying0
 a0:=isAgg0
 z0:=sizeOf0
 v0:=zeroValue0
 t2:=underlying2
 a2:=isAgg2
 z2:=sizeOf2
 v2:=zeroValue2
 t3:=underlying3
 a3:=isAgg3
 z3:=sizeOf3
 v3:=zeroValue3
 t4:=underlying4
 a4:=isAgg4
 z4:=sizeOf4
 v4:=zeroValue4
 t5:=underlying5
 a5:=isAgg5
 z5:=sizeOf5
 v5:=zeroValue5
 t9:=underlying9
 a9:=isAgg9
 z9:=sizeOf9
 v9:=zeroValue9
 t20:=underlying20
 a20:=isAgg20
 z20:=sizeOf20
 v20:=zeroValue20
 t37:=underlying48
 a37:=isAgg48
 z37:=sizeOf48
 v37:=zeroValue48
 t46:=underlying276
 a46:=isAgg276
 z46:=sizeOf276
 v46:=zeroValue276
 t51:=underlying118
 a51:=isAgg118
 z51:=sizeOf118
 v51:=zeroValue118
 t53:=underlying63
 a53:=isAgg63
 z53:=sizeOf63
 v53:=zeroValue63
 t171:=underlying384
 a171:=isAgg384
 z171:=sizeOf384
 v171:=zeroValue384
 t173:=underlying387
 a173:=isAgg387
 z173:=sizeOf387
 v173:=zeroValue387
 t212:=underlying432
 a212:=isAgg432
 z212:=sizeOf432
 v212:=zeroValue432
 t213:=underlying433
 a213:=isAgg433
 z213:=sizeOf433
 t232:=underlying477
 a232:=isAgg477
 z232:=sizeOf477
 v232:=zeroValue477
 t233:=underlying465
 a233:=isAgg465
 z233:=sizeOf465
 v233:=zeroValue465
 g17:=by kernel_rfl
 g18:=by kernel_rfl
 g19:=by kernel_rfl
 i0:=by kernel_rfl
 i2:=by kernel_rfl
 i3:=by kernel_rfl
 i4:=by kernel_rfl
 i5:=by kernel_rfl
 i9:=by kernel_rfl
 i20:=by kernel_rfl
 i37:=by kernel_rfl
 i46:=by kernel_rfl
 i51:=by kernel_rfl
 i53:=by kernel_rfl
 i171:=by kernel_rfl
 i173:=by kernel_rfl
 i212:=by kernel_rfl
 i232:=by kernel_rfl
 i233:=by kernel_rfl
 m17:=by kernel_rfl
 m18:=by kernel_rfl
 m19:=by kernel_rfl
def fJ :Prop:=Lib.TabIs prog a "internal/strconv.uint64pow10" .u64 Lib.pow10Tab
def Rn(h:Lib.TabIs o l p q r)(c:Ext [] l n):Lib.TabIs o n p q r:=by
 unfold Lib.TabIs World.var? at *
 obtain⟨a,d,b⟩:=k7.1 h;refine k7.2 ⟨a,d,?_⟩;have e:a<l.heap.size:=by
  rcases fd a l.heap.size with h | h
  exact h;rw[Array.getElem?_eq_none h] at b;cases b
 rw[c.block a e au];exact b
def fJ.ext(a:fJ l)(b:Ext [] l n):fJ n:=Rn a b
def Ro :Ext [] a (Sort.grow (a.drewN f) s):=by
 refine⟨rfl,rfl,rfl,?_,λb c _=>?_⟩;show a.heap.size<=(a.heap++s).size
 simp
 show (a.heap++s)[b]? = a.heap[b]?
 rw[wn c]
def qJ(f:fJ a)(b:Int)(c: -9223372036854775808<=b/\b<=9223372036854775807):
 ay 100 [ad b] a (λd e=>d= .returned (bU<|Lib.itoa b)/\Ext [] a e):=by
 refine Calls.mono (Any.strconv_Itoa Rm b c.1 c.2 a f) ?_;rintro d e ⟨rfl,g,h,rfl⟩;exact⟨rfl,Ro a g h⟩
namespace bj
def qK(a:i<10):Lib.decDigits i=[UInt8.ofNat (48+i)]:=by rw[Lib.decDigits,dif_pos a]
def xk(a: ¬i<10):Lib.decDigits i=Lib.decDigits (i/10)++[UInt8.ofNat (48+i%10)]:=by rw[Lib.decDigits,dif_neg a]
def Ie(a:i<=9223372036854775807): (Lib.decDigits i).length<=21:=by
 have:=Lib.itoa_length_le (i:Int) aa aa
 rwa [Lib.itoa_nonneg] at this
def If:Shelf.Ren:=⟨λ| 156=>326 | 165=>407 | 166=>99 | 169=>43 | 240=>161 | 241=>467 | 276=>239 | 277=>490 | n=>n,λ| 0=>0 | 3=>3 | 4=>4 | 5=>5 | 9=>9 | 20=>20 | 31=>353 | 37=>48 | 70=>102 | 72=>104 | 75=>193 | 76=>194 | 80=>111 | 127=>197 | 164=>328 | n=>n,λn=>n⟩
def Ig:Lays.n156 prog If where
 mixed:=by kernel_rfl
 f156:=func326.trans<|a_ some ak
 f165:=func407.trans<|a_ some ak
 f166:=func99.trans<|a_ some ak
 f169:=func43.trans<|a_ some ak
 f240:=func161.trans<|a_ some ak
 f241:=func467.trans<|a_ some ak
 f276:=func239.trans<|a_ some ak
 f277:=func490.trans<|a_ some ak
 t0:=underlying0
 a0:=isAgg0
 z0:=sizeOf0
 v0:=zeroValue0
 t3:=underlying3
 a3:=isAgg3
 z3:=sizeOf3
 v3:=zeroValue3
 t4:=underlying4
 a4:=isAgg4
 z4:=sizeOf4
 v4:=zeroValue4
 t9:=underlying9
 a9:=isAgg9
 z9:=sizeOf9
 v9:=zeroValue9
 t20:=underlying20
 a20:=isAgg20
 z20:=sizeOf20
 v20:=zeroValue20
 t31:=underlying353
 a31:=isAgg353
 z31:=sizeOf353
 v31:=zeroValue353
 t37:=underlying48
 a37:=isAgg48
 z37:=sizeOf48
 v37:=zeroValue48
 t70:=underlying102
 a70:=isAgg102
 z70:=sizeOf102
 v70:=zeroValue102
 t72:=underlying104
 a72:=isAgg104
 z72:=sizeOf104
 v72:=zeroValue104
 t75:=underlying193
 a75:=isAgg193
 z75:=sizeOf193
 v75:=zeroValue193
 t76:=underlying194
 a76:=isAgg194
 z76:=sizeOf194
 v76:=zeroValue194
 t127:=underlying197
 a127:=isAgg197
 z127:=sizeOf197
 v127:=zeroValue197
 t164:=underlying328
 a164:=isAgg328
 z164:=sizeOf328
 v164:=zeroValue328
def Ih:Builder.Extra prog If where
 sizeBuilder:=by kernel_rfl
 liesBuilder:=by kernel_rfl
 t5:=underlying5
 a5:=isAgg5
 z5:=sizeOf5
 v5:=zeroValue5
 infoByte:=by kernel_rfl
 cellsByte:=by kernel_rfl
 sizeByte:=by kernel_rfl
 neB5:=bg ak
end bj
def lI:b1 (List UInt8):=⟨λa=>[bU a],1,λ_=>rfl,λ_=>aV.cons rfl aV.nil⟩
namespace bj
def Ii(L:List (List UInt8))(c:List UInt8)(l:a.ownsRow 0 f 1 t m (lI.all L))(n:L.length=m)(z:m<=1000000)(r: (Lib.join L c).length<=140737488355328):
 ay 326 [t,bU c] a (λf e=>f= .returned (bU<|Lib.join L c)/\Ext [] a e):=by
 rcases l.2 with ⟨rfl,s⟩ | ⟨g,u,A,rfl,_,v,B,C,D,E⟩
 have w:L=[]:=jX<|n.trans s
 subst w;refine (Any.strings_Join_none Ig Ih none 0 (bs c) a).mono λf e ⟨h,d⟩=>⟨?_,d▸Ext.refl _ _⟩
 rw[h];rfl
 have o: (L.map bs).map (λp:ByteArray=>p.data.toList)=L:=by
  rw[o8];conv=>rhs;rw[<-List.map_id L]
  exact sD λi _=>rfl
 have q:=Any.strings_Join Ig Ih g 0 u (L.map bs) (bs c) a (λj p b=>by
  rw[fw] at b
  cases k:L[j]? with
  | none=>rw[k] at b;simp at b
  | some i=>
   rw[k] at b
   simp only[o_,ek] at b
   subst b;have x:=lI.nE (j:=0) (u:=bU i) k rfl
   have d: (lI.all L)[j]? = some (bU i):=by simpa [lI] using x
   have y:=l.cells (g:=g) rfl j _ d
   rwa [Addr.add_lit] at y)
  (lr.1 v).1 (by simp;omega) (by simp;omega) (by rw[o];exact r)
 rw[o,c8,n] at q
 exact q.mono λf e ⟨h,d⟩=>⟨h,Ext.us d⟩
def fK :List UInt8:=Lib.join (j.map Lib.itoa) [59]
def join_le : ∀(d:List (List UInt8)),(∀b∈d,b.length<=f)->(Lib.join d u).length<=d.length*(f+u.length)
 | [],_=>by simp[Lib.join_nil]
 | x::a,c=>by
  rw[Lib.join_cons,b3];have k:=c x au
  have h: ∀(a:List (List UInt8)),(∀b∈a,b.length<=f)->(Lib.joinTail u a).length<=a.length*(f+u.length):=by
   intro a;induction a with
   | nil=>intro _;simp[Lib.joinTail]
   | cons i a j=>
    intro c;have g:=j λb e=>c b (by simp[e])
    have l:=c i au
    unfold Lib.joinTail at g ⊢
    rw[ku,List.flatten_cons,b3,b3,dV,Nat.add_one_mul];omega
  have g:=h a λb e=>c b (by simp[e])
  rw[dV,Nat.add_one_mul];omega
def CO(b: ∀a∈j,-9223372036854775808<=a/\a<=9223372036854775807): (fK j).length<=j.length*22:=by
 have:=join_le [59] 21 (j.map Lib.itoa) (λe d=>by
  obtain⟨a,c,rfl⟩:=ei.1 d;exact Lib.itoa_length_le a (b a c).1 (b a c).2)
 simpa [fK] using this
def r5(l:fJ a)(n:Nat->Prop)(f:Option Addr)(m g:Nat)(c:List Int)(j:Rd ct a n f m g c)(v:m<=1000)(k: ∀x∈c,-9223372036854775808<=x/\x<=9223372036854775807):
 ay 277 [.slice f m g] a (λo d=>o= .returned (bU<|fK c)/\Ext [] a d):=by
 have w:=j.len
 have y:=CO c k
 refine ba func277 ntmps277 ?_;refine b6 ?_;refine lz 9 1<|aU ?_;refine cd (ι:=Nat × Value) (λb=>[(3,b.2),(6,.slice f m g),(7,ad (m:Int)),(8,ad (b.1 :Int))]) (λb=>ag a [] [own 9 1 b.2 b.1 (lI.all<|(c.take b.1).map Lib.itoa)]) (λb=>b.1<=m) (λb=>m - b.1) ?_ ?_;exact λa h=>⟨(0,.slice none 0 0),b4 _,(da rfl rfl rfl rfl),h⟩
 rintro⟨b,z⟩ p;dsimp only at p ⊢
 refine (aE) (λq=>?_) λq=>?_;obtain⟨x,i⟩ : ∃x,c[b]? = some x:=⟨c[b]'aa,bD _⟩;have r:=k x<|cR i
 obtain⟨A,s,_,t⟩:=j.at_ i;refine aH ?_;refine bE (q:=b) eE rfl rfl rfl s aa aa<|bb bY rfl rfl (λd e=>e.ch (t 0 _ rfl) au)<|aH ?_;refine bd (λd e=>qJ d (l.ext e.ext) x r)<|av ?_;intro B C D;refine hW Gk rfl rfl rfl bx (λ_=>by exact cJ) rfl (jE rfl) (by simp only[maxLen];omega) aa λu E=>?_;refine aY ?_;refine bv (b+1,u) bL bL (da rfl rfl rfl rfl) λd e=>?_;dsimp only;rw[hA,i,rp,gF,ku,rl,b1.iP];exact e;obtain rfl:b=m:=by omega
 rw[eT aa];refine aY ?_;refine cU (hargs:=rfl) (Ii · _ _ _ (c.map Lib.itoa) [59] · (by simp;omega) aa (by show (fK c).length<=_;omega)) ?_;refine aI ?_;exact λF h=>⟨rfl,h.ext⟩
def fV :Nat:=(max 0<|min b 1000).toNat
def Rp :max 0 (min b 1000)=(fV b:Int):=by unfold fV;omega
def nU :fV b<=1000:=by unfold fV;omega
def vj :ay 303 [ad b] a (λc d=>c= .returned (ad (fV b:Int))/\Ext [] a d):=by
 refine ba func303 ntmps303 ?_;refine dO ?_;exact λf e=>⟨by rw[<-Rp],e.ext⟩
def tv{n:Nat}(a:n<=1001): (Lib.decDigits n).length<=21:=Ie aa
def zV :List UInt8:=[27,91]++(if v then [63] else [])++Lib.decDigits (f+1)++[59]++Lib.decDigits (m+1)++[82]
def zW :List UInt8:=[27,91,56,59]++Lib.decDigits f++[59]++Lib.decDigits m++[116]
def Rq(a:Nat):fK [(a:Int)]=Lib.decDigits a:=by
 simp only[fK,ku,rl,Lib.join_one,Lib.itoa_nonneg]
def CP(b:Nat):fK [(f:Int),(b:Int)]=Lib.decDigits f++[59]++Lib.decDigits b:=by
 simp[fK,Lib.join,List.intercalate,Lib.itoa_nonneg]
def Ij(c:Nat):fK [(f:Int),(m:Int),(c:Int)]=Lib.decDigits f++[59]++Lib.decDigits m++[59]++Lib.decDigits c:=by
 simp[fK,Lib.join,List.intercalate,Lib.itoa_nonneg]
def Rr(h:fJ a)(b c:Int)(d:Bool):ay 274 [ad b,ad c,.bool d] a (λi e=>i= .returned (.string<|bs<|zV d (fV b)<|fV c)/\Ext [] a e):=by
 have n:=nU b
 have o:=nU c
 refine ba func274 ntmps274 ?_;refine bP ?_;refine mG ([(0,ad b),(1,ad c),(7,bU<|if d then [63] else [])]) (ag a [] []) (aI ?_) ?_
 ·focus (refine cD rfl (λf=>?_) λf=>?_;refine ap ?_;rw[aB f];rotate_left;refine av ?_;rw[ai (by simp[f])];all_goals (exact iQ (ed rfl rfl rfl) λ_ j=>j))
 ·have p: (if d then ([63]:List UInt8) else []).length<=1:=by split <;> simp
  generalize k: (if d then ([63]:List UInt8) else [])=q at *
  refine aA ?_;have r:=tv (n:=fV b+1) aa
  have s:=tv (n:=fV c+1) aa
  refine aA ?_;refine eb rfl rfl rfl cg<|av ?_;refine bF (vj · b)<|aA ?_;refine bF (vj · c)<|aA ?_;intro t u v;refine bd (hargs:=rfl) (λe g=>r5 e (h.ext g.ext) _ _ 2 2 [((fV b+1 :Nat):Int),((fV c+1 :Nat):Int)] (Rd.iR (E:=ct) g Has.head rfl aW) aW<|by intro w l;simp at l;omega) ?_;rw[CP];refine eb rfl rfl rfl cg<|eb rfl rfl rfl cg<|aI ?_;intro x m;refine⟨?_,m.ext⟩;rw[zV,k];simp
def tc(f:fJ a)(b c:Int):ay 296 [ad b,ad c] a (λg d=>g= .returned (.string<|bs<|zW (fV b)<|fV c)/\Ext [] a d):=by
 have j:=nU b
 have k:=nU c
 refine ba func296 ntmps296 ?_;refine aH ?_;have l:=tv (n:=8) aa
 have m:=tv (n:=fV b) aa
 have n:=tv (n:=fV c) aa
 refine aA ?_;refine bF (vj · b)<|av ?_;refine bF (vj · c)<|av ?_;intro o p q;refine bd (hargs:=rfl) (λd e=>r5 d (f.ext e.ext) _ _ 3 3 [((8 :Nat):Int),(fV b:Int),(fV c:Int)] (Rd.iR (E:=ct) e Has.head rfl aW) aW<|by intro r h;simp at h;omega) ?_;rw[Ij];refine eb rfl rfl rfl cg<|eb rfl rfl rfl cg<|aI ?_;intro s i;refine⟨?_,i.ext⟩;rw[zW,show Lib.decDigits 8=[56] from qK aW];simp
def CQ{n:Nat}(a:n<10):Lib.decDigits n=[UInt8.ofNat (48+n)]:=qK a
def CR{n:Nat}(a: ¬n<10)(b:n<100):Lib.decDigits n=[UInt8.ofNat (48+n/10),UInt8.ofNat<|48+n%10]:=by
 rw[xk a,qK aa];rfl
def Ik(d:fJ a):ay 261 [] a (λe b=>e= .returned (.string<|bs [27,91,63,54,50,59,50,50,99])/\Ext [] a b):=by
 refine ba func261 ntmps261 ?_;refine aY ?_;intro g h i;refine bd (v:= .string<|bs [54,50,59,50,50]) (hargs:=rfl) (λb c=>by have:=r5 b (d.ext c.ext) _ _ 2 2 [((62 :Nat):Int),((22 :Nat):Int)] (Rd.iR (E:=ct) c Has.head rfl aW) aW aW;rw[show fK [((62 :Nat):Int),((22 :Nat):Int)]=[54,50,59,50,50] from (by rw[CP,CR (n:=62) aW aW,CR (n:=22) aW aW];decide)] at this;exact this) ?_;refine eb rfl rfl rfl cg<|eb rfl rfl rfl cg<|aI ?_;exact λj f=>⟨rfl,f.ext⟩
def Rs(d:fJ a):ay 191 [] a (λe b=>e= .returned (.string<|bs [27,91,62,49,59,49,48,59,48,99])/\Ext [] a b):=by
 refine ba func191 ntmps191 ?_;refine aY ?_;intro g h i;refine bd (v:= .string<|bs [49,59,49,48,59,48]) (hargs:=rfl) (λb c=>by have:=r5 b (d.ext c.ext) _ _ 3 3 [((1 :Nat):Int),((10 :Nat):Int),((0 :Nat):Int)] (Rd.iR (E:=ct) c Has.head rfl aW) aW aW;rw[show fK [((1 :Nat):Int),((10 :Nat):Int),((0 :Nat):Int)]=[49,59,49,48,59,48] from (by rw[Ij,CQ (n:=1) aW,CR (n:=10) aW aW,CQ (n:=0) aW];decide)] at this;exact this) ?_;refine eb rfl rfl rfl cg<|eb rfl rfl rfl cg<|aI ?_;exact λj f=>⟨rfl,f.ext⟩
def Rt(d:fJ a):ay 294 [] a (λe b=>e= .returned (.string<|bs [27,91,48,110])/\Ext [] a b):=by
 refine ba func294 ntmps294 ?_;refine aY ?_;intro g h i;refine bd (v:= .string<|bs [48]) (hargs:=rfl) (λb c=>by have:=r5 b (d.ext c.ext) _ _ 1 1 [((0 :Nat):Int)] (Rd.iR (E:=ct) c Has.head rfl aW) aW aW;rw[show fK [((0 :Nat):Int)]=[48] from (by rw[Rq,CQ (n:=0) aW];decide)] at this;exact this) ?_;refine eb rfl rfl rfl cg<|eb rfl rfl rfl cg<|aI ?_;exact λj f=>⟨rfl,f.ext⟩
