/- part 10 of the proof -/
import Derived.Test.YtoghoobfpcadbaaGreatDoorQ09
namespace Go.Proofs.YtoghoobfpcadbaaGreatDoor.Mq
open Go Go.RowKit Go.Proofs Tryz
structure hM where
 di:Int
 fn:Int
 an:Int
 aM:Int
 fl:Int
structure bj where
 r:Int
 more:List UInt8
 half:Int
 at_:hM
abbrev hM.enc (a:hM):List Value:=[.int .i64 a.di,.int .i64 a.fn,.int .i64 a.an,.int .i64 a.aM,.int .i64 a.fl]
abbrev bj.enc (c:bj):List Value:=[.int .i32 c.r,.string (bs c.more),.int .i64 c.half,.int .i64 c.at_.di,.int .i64 c.at_.fn,.int .i64 c.at_.an,.int .i64 c.at_.aM,.int .i64 c.at_.fl]
def bJ:bx bj:=⟨bj.enc,8,λ_=>rfl,λ_=>by repeat (first | exact aH.nil | refine aH.cons rfl ?_)⟩
structure pX where
 A:Option Addr
 n:Nat
 c:Nat
 cont:Bool
abbrev pX.enc (r:pX):List Value:=[.slice r.A r.n r.c,.bool r.cont]
def lf:bx pX:=⟨pX.enc,2,λ_=>rfl,λ_=>aH.cons rfl (aH.cons rfl aH.nil)⟩
structure bh where
 row:Int
 dp:Int
 deriving DecidableEq
abbrev bh.enc (p:bh):List Value:=[.int .i64 p.row,.int .i64 p.dp]
def bW:bx bh:=⟨bh.enc,2,λ_=>rfl,λ_=>aH.cons rfl (aH.cons rfl aH.nil)⟩
def mF:bx (Int × Int):=⟨λp=>[.int .i64 p.1,.int .i64 p.2],2,λ_=>rfl,λ_=>aH.cons rfl (aH.cons rfl aH.nil)⟩
def bX:bx Int:=⟨λp=>[.int .i64 p],1,λ_=>rfl,λ_=>aH.cons rfl aH.nil⟩
theorem hM.ext' {a b:hM} (c:a.di=b.di) (d:a.fn=b.fn) (e:a.an=b.an) (f:a.aM=b.aM) (g:a.fl=b.fl):a=b:=by
 cases a;cases b;simp_all
theorem bj.ext' {a b:bj} (c:a.r=b.r) (d:a.more=b.more) (e:a.half=b.half) (f:a.at_=b.at_):a=b:=by
 cases a;cases b;simp_all
instance:DecidableEq hM:=λa b=>
 if h:a.di=b.di∧a.fn=b.fn∧a.an=b.an∧a.aM=b.aM∧a.fl=b.fl then isTrue (hM.ext' h.1 h.2.1 h.2.2.1 h.2.2.2.1 h.2.2.2.2)
 else isFalse λe=>h (by subst e;exact⟨rfl,rfl,rfl,rfl,rfl⟩)
instance:DecidableEq bj:=λa b=>
 if h:a.r=b.r∧a.more=b.more∧a.half=b.half∧a.at_=b.at_ then isTrue (bj.ext' h.1 h.2.1 h.2.2.1 h.2.2.2)
 else isFalse λe=>h (by subst e;exact⟨rfl,rfl,rfl,rfl⟩)
theorem Pu (a b:bj):eqv a.enc b.enc=decide (a=b):=by
 rw[Bool.eq_iff_iff];simp only[eqv,sf,d_,e2,qA,bs];constructor
 rintro⟨c,d,e,f,g,h,i,j⟩;exact bj.ext' c (by simpa using d) e (hM.ext' f g h i j)
 rintro rfl;simp
theorem Aq (a b:bh):eqv a.enc b.enc=decide (a=b):=by
 rw[Bool.eq_iff_iff];simp only[eqv,sf,d_,e2,qA];constructor
 rintro⟨c,d⟩;cases a;cases b;simp_all
 rintro rfl;simp
def gR (a:hM):bj:=⟨0,[],0,a⟩
def Pv:hM:=⟨0,0,0,0,0⟩
def gS:bj:=gR Pv
def xj (a b:bj):Bool:=decide (a.half=1) && decide (a= { b with half:=1 })
def pY (c d:bj):Bool:=decide (c.half=1) && decide (d.half=2) && xj c d
def uO (c:bj):List bj→Bool
 | []=>false
 | d::_=>pY c d
def dg:List bj→List bj
 | []=>[]
 | [c]=>[if c.half=0∨c.half=3 then c else gR c.at_]
 | c::d::l=>if c.half=0 then c::dg (d::l) else if pY c d then c::d::dg l else gR c.at_::dg (d::l)
theorem hN (l:List bj): (dg l).length=l.length:=by
 fun_induction dg l <;> simp_all
def lg (l:List bj):Nat:=((l.reverse.dropWhile (λc=>decide (c.r=0))).length)
theorem Pw (l:List bj):lg l≤l.length:=by
 unfold lg;have:=(List.dropWhile_sublist (λc:bj=>decide (c.r=0)) (l:=l.reverse)).length_le
 simpa using this
def Ar (l:List bj):List bj:=l.take (lg l)
theorem FO: ∀(l:List bj),dg (dg l)=dg l:=by
 intro l;fun_induction dg l with
 | case1=>rfl
 | case2 c=>
  split
  rename_i h;simp[dg,h]
  simp[dg,gR]
 | case3 c d l h a=>
  have b:dg (d::l)≠[]:=λe=>by have:=hN (d::l);rw[e] at this;simp at this
  obtain⟨x,xs,f⟩:=List.exists_cons_of_ne_nil b;rw[f] at a ⊢
  simp only[dg,h,if_true,a]
 | case4 c d l h ai a=>simp[dg,h,ai,a]
 | case5 c d l h ai a=>
  have b:dg (d::l)≠[]:=λe=>by have:=hN (d::l);rw[e] at this;simp at this
  obtain⟨x,xs,f⟩:=List.exists_cons_of_ne_nil b;rw[f] at a ⊢
  simp only[dg,gR,if_true,a]
theorem Px (l:List bj) (c:bj):lg (l++[c])=if c.r=0 then lg l else l.length+1:=by
 unfold lg;rw[uj,List.reverse_singleton,rZ,List.dropWhile_cons];by_cases h:c.r=0
 simp[h]
 simp[h]
theorem FP (w:World) (a:hM):Calls prog 426 [.agg a.enc.toArray].toArray w (λe w'=>e= .returned (.agg (gR a).enc.toArray)∧Ext [] w w'):=by
 refine aW func426 ntmps426 ?_;refine ah ?_;intro c d f;refine ar ?_;intro g h i;refine bp ?_;intro j b;exact⟨rfl,b.ext⟩
theorem Py (w:World) (a b:bj):Calls prog 425 [.agg a.enc.toArray,.agg b.enc.toArray].toArray w (λe w'=>e= .returned (.bool (xj a b))∧Ext [] w w'):=by
 refine aW func425 ntmps425 ?_;refine ah ?_;intro f g i;refine ar ?_;intro j k l;refine cI ?_;refine aX 9 rfl (λh=>?_) (λh=>?_);have ai:=a1 h
 refine ax ?_;refine zo L3 rfl rfl rfl ab (Pu a { b with half:=1 }) ?_;refine al ?_;intro d c;exact⟨by simp[xj,ai],c.ext⟩;have ai:=bc h
 refine aJ ?_;intro d c;exact⟨by simp[xj,ai],c.ext⟩
theorem xk (w:World) (v:Value) (row:List bj) (Q:w.ownsRow 0 283 8 v row.length (bJ.all row)) (Z:row.length≤1000000):
 Calls prog 373 [v].toArray w (λe w'=>e= .returned (.tuple #[])∧Ext v.ownBlock.toList w w'∧w'.ownsRow 0 283 8 v row.length (bJ.all (dg row))):=by
 refine calls (n:=67) func373 rfl ntmps373 rfl ?_
 refine cL (H':=af w (own 283 8 v row.length (bJ.all row)).cm [own 283 8 v row.length (bJ.all row)]) ?_ (Sub.refl _) (λx R=>af.qP R Q (uv _ _ _ _ _))
 refine al ?_
 refine b1 (ι:=List bj × List bj) (λi=>[(0,v),(2,.int .i64 (i.1.length:Int))]) (λi=>af w (own 283 8 v row.length (bJ.all row)).cm [own 283 8 v row.length (bJ.all (i.1++i.2))]) (λi=>dg row=i.1++dg i.2∧i.1.length+i.2.length=row.length) (λi=>i.2.length) ?_ ?_
 ·exact λw F=>⟨([],row),⟨rfl,by simp⟩,(iJ rfl rfl),F⟩
 ·rintro⟨pre,rest⟩ ⟨t,a⟩
  dsimp only at t a ⊢
  refine hE (v:=v) Has.head (λA p S Za Zb Zc T=>?_)
  subst S
  refine aJ ?_
  refine aj (λU=>?_) (λU=>?_)
  ·cases rest with
   | nil=>simp at a;omega
   | cons c rest=>
   obtain⟨g,rfl⟩:=T aa
   have V: (pre++c::rest)[pre.length]? = some c:=by simp
   refine aL ?_
   refine bw dB rfl rfl rfl bb bb aa ?_
   refine cy jU rfl rfl (rfl) (λw' m j u I=>m.k4 (E:=bJ) Has.head V j u I) ?_
   refine ar ?_
   intro G Zd Ze
   refine ax ?_
   have N: (((pre.length:Int)=(row.length:Int) - 1)↔rest=[]):=by
    constructor
    ·intro h;simp at a;exact iZ aa
    ·intro h;subst h;simp at a;omega
   refine ou ([(20,.bool (decide (c.half=0) || (decide (c.half=3) && decide ((pre.length:Int)=(row.length:Int) - 1)))),(0,.slice (some ⟨g,0,none⟩) row.length p),(2,.int .i64 (pre.length:Int)),(3,.pointer (some ⟨G,0,none⟩))]) (af w (own 283 8 (.slice (some ⟨g,0,none⟩) row.length p) row.length (bJ.all row)).cm [aE G c.enc 283,own 283 8 (.slice (some ⟨g,0,none⟩) row.length p) row.length (bJ.all (pre++c::rest))]) ?_ ?_
   ·refine ax ?_
    refine aX 24 rfl (λr=>?_) (λr=>?_)
    ·have H:=a1 r
     refine bI ?_
     exact gw (Sub.cons (aV (λx=>some (Value.bool x)) (by simp[H])) (ef rfl rfl rfl)) (λ_ h=>h)
    ·have H:=bc r
     refine aL ?_
     refine aX 28 rfl (λb=>?_) (λb=>?_)
     ·have J:=a1 b
      refine cI ?_
      exact gw (Sub.cons (aV (λx=>some (Value.bool x)) (by simp[H,J])) (ef rfl rfl rfl)) (λ_ h=>h)
     ·have J:=bc b
      refine aR ?_
      exact gw (Sub.cons (aV (λx=>some (Value.bool x)) (by simp[H,J])) (ef rfl rfl rfl)) (λ_ h=>h)
   ·refine ar ?_
    refine b6 rfl (λf=>?_) (λf=>?_)
    ·refine aJ ?_
     have y:dg (c::rest)=c::dg rest:=by
      rw[mo,d_] at f
      simp only[e2] at f
      cases rest with
      | nil=>rcases f with h | ⟨h,_⟩ <;> simp[dg,h]
      | cons d l=>
       rcases f with h | ⟨h,z⟩
       ·simp[dg,h]
       ·exact absurd (N.1 z) av
     refine bg (pre++[c],rest) ⟨by rw[t,y];simp,by simp at a ⊢;omega⟩ av (Sub.cons bb (Sub.cons (by simp[look]) Sub.nil)) (λw' m=>?_)
     have:=m.rem bv.head
     simpa using this
    ·rw[Bool.or_eq_false_iff] at f
     have K:c.half≠0:=bc f.1
     refine ar ?_
     refine ou ([(36,.bool (uO c rest)),(0,.slice (some ⟨g,0,none⟩) row.length p),(2,.int .i64 (pre.length:Int)),(3,.pointer (some ⟨G,0,none⟩))]) (af w (own 283 8 (.slice (some ⟨g,0,none⟩) row.length p) row.length (bJ.all row)).cm [aE G c.enc 283,own 283 8 (.slice (some ⟨g,0,none⟩) row.length p) row.length (bJ.all (pre++c::rest))]) ?_ ?_
     ·by_cases r:c.half=1
      ·cases rest with
       | nil=>
        have b:decide ((pre.length:Int)+1<(row.length:Int))=false:=bO (by simp at a;omega)
        refine bF [0,1,2,3,4,5,6,7,8,9,10,11,12,13,14,15,16,17,18,19,20,21,22,23,24,25,26,27,28] 0 [[]] ?_
        refine xi ?_
        exact gw (cw rfl rfl rfl rfl) (λ_ h=>h)
       | cons d rest=>
        have b:decide ((pre.length:Int)+1<(row.length:Int))=true:=b5 (by simp at a;omega)
        have Zf:pre.length+1<row.length:=by simp at a;omega
        have M: (pre++c::d::rest)[pre.length+1]? = some d:=by simp[kY]
        by_cases s:d.half=2
        ·refine bF [0,1,2,3,4,5,6,7,8,9,10,11,12,13,14,15,16,17,18,19,20,21,22,23,24,25] 1 [[(26,false,[27,28])]] ?_
         refine b_ ?_
         refine aI rfl (λB k=>(bY rfl rfl b (bw (q:=pre.length+1) dB rfl rfl rfl bb aa aa aC))) ?_
         refine ar ?_
         refine aI rfl (λB k=>(bY rfl rfl b (a7 bM rfl rfl (λO C=>by subst C;exact k.k4 (E:=bJ) bH M 2 _ rfl) aC))) ?_
         refine aD ?_
         refine aI rfl (λB k=>(bY rfl rfl (b5 s) (bw (q:=pre.length+1) dB rfl rfl rfl bb aa aa aC))) ?_
         refine aI rfl (λB k=>(bY rfl rfl (b5 s) (cy jU rfl rfl (rfl) (λO C j u I=>by subst C;exact k.k4 (E:=bJ) bH M j u I) aC))) ?_
         refine ah ?_
         refine ao rfl OZ rfl (λw' _=>Py w' c d) ?_
         refine ax ?_
         exact gw (Sub.cons (aV (λx=>some (Value.bool x)) (by simp[uO,pY,r,s])) (ef rfl rfl rfl)) (λ_ h=>h)
        ·refine bF [0,1,2,3,4,5,6,7,8,9,10,11,12,13,14,15,16,17,18,19,20,21,22,23,24,25,26,27,28] 0 [[]] ?_
         refine b_ ?_
         refine aI rfl (λB k=>(bY rfl rfl b (bw (q:=pre.length+1) dB rfl rfl rfl bb aa aa aC))) ?_
         refine ar ?_
         refine aI rfl (λB k=>(bY rfl rfl b (a7 bM rfl rfl (λO C=>by subst C;exact k.k4 (E:=bJ) bH M 2 _ rfl) aC))) ?_
         refine b_ ?_
         exact gw (Sub.cons (aV (λx=>some (Value.bool x)) (by simp[uO,pY,s])) (ef rfl rfl rfl)) (λ_ h=>h)
      ·refine bF [0,1,2,3,4,5,6,7,8,9,10,11,12,13,14,15,16,17,18,19,20,21,22,23,24,25,26,27,28] 0 [[]] ?_
       refine xi ?_
       exact gw (Sub.cons (aV (λx=>some (Value.bool x)) (by cases rest <;> simp[uO,pY,r])) (ef rfl rfl rfl)) (λ_ h=>h)
     ·refine ar ?_
      refine b6 rfl (λD=>?_) (λD=>?_)
      ·cases rest with
       | nil=>cases D
       | cons d rest=>
        refine bI ?_
        have y:dg (c::d::rest)=c::d::dg rest:=by
         simp only[dg,ag K]
         rw[ay (show pY c d=true from D)]
        refine bg (pre++[c,d],rest) ⟨by rw[t,y];simp,by simp at a ⊢;omega⟩ (by simp;omega) (Sub.cons bb (Sub.cons (by simp[look];omega) Sub.nil)) (λw' m=>?_)
        have:=m.rem bv.head
        simpa using this
      ·refine ax ?_
       refine ao rfl Fg rfl (λw' _=>FP w' c.at_) ?_
       refine bw dB rfl rfl rfl bb bb aa ?_
       refine jT (o:=pre.length*8) jU rfl rfl er (by simp[Addr.add_lit]) rfl (bJ.hj (gR c.at_)) (by rw[bJ.dE];show pre.length*8+8≤_*8;simp;omega) ?_
       refine aJ ?_
       have y:dg (c::rest)=gR c.at_::dg rest:=by
        cases rest with
        | nil=>
         have s:c.half≠3:=λh=>by
          have:=f.2
          rw[ud] at this
          rcases this with z | z
          ·exact bc z h
          ·exact bc z (N.2 rfl)
         simp[dg,K,s]
        | cons d l=>
         simp only[uO] at D
         simp[dg,K,D]
       refine bg (pre++[gR c.at_],rest) ⟨by rw[t,y];simp,by simp at a ⊢;omega⟩ av (Sub.cons bb (Sub.cons (by simp[look]) Sub.nil)) (λw' m=>?_)
       have:=m.rem bv.head
       have P:=bJ.hl (L:=pre++c::rest) (i:=pre.length) (gR c.at_) av
       have W: (pre++c::rest).set pre.length (gR c.at_)=(pre++[gR c.at_])++rest:=by simp
       rw[W] at P
       rw[←P]
       exact this
  ·refine ax ?_
   intro Zg F
   have X:rest=[]:=iZ aa
   subst X
   have Y:dg row=pre++[]:=t
   exact⟨rfl,F.ext,by rw[Y];exact F.has Has.head⟩
theorem FQ (w:World) (v:Value):Calls prog 290 [v].toArray w (λe w'=>e= .returned (.tuple #[])∧Ext [] w w'):=by
 refine aW func290 ntmps290 ?_;refine aq ?_;intro b a;exact⟨rfl,a.ext⟩
theorem oE (w:World) (F:Nat→Prop) (A:Option Addr) (n c:Nat) (row:List bj) (k:Rd bJ w F A n c row) (q:n≤1000000):
 Calls prog 289 [.slice A n c,.func (.func 290) #[] #[]].toArray w (ik bJ w (dg row)):=by
 have a:=k.len
 refine aW func289 ntmps289 ?_;refine jS 283 8 ?_;refine aL ?_;refine nc (E:=bJ) dB rfl rfl rfl (λ_=>by exact cA) (λw' b=>k.ext b.ext av) (by simp only[maxLen];omega) aa (λf m=>?_);refine al ?_;refine qO (v:= .tuple #[]) (c':=own 283 8 f (0+n) (bJ.all (dg row))) rfl w0 rfl cA bb (λw' b=>(xk w' f row (by have:=b.has Has.head;rw[dA] at this;rw[a];exact this) aa).mono ?_) ?_;rintro e o ⟨i,j,d⟩;exact⟨i,j,by rw[dA];rw[a] at d;exact d⟩;refine al ?_;refine gx rfl rfl EY rfl (λw' _=>FQ w' _) ?_;refine ax ?_;refine qO (v:= .tuple #[]) (c':=own 283 8 f (0+n) (bJ.all (dg row))) rfl w0 rfl cA bb (λw' b=>(xk w' f (dg row) (by have:=b.has Has.head;rw[dA] at this;rw[hN,a];exact this) (by rw[hN];omega)).mono ?_) ?_;rintro e o ⟨i,j,d⟩;exact⟨i,j,by rw[dA];rw[hN,a,FO] at d;exact d⟩;refine aR ?_;intro r l;exact ik.ga l.ext (l.has Has.head) (by rw[hN,a,dA]) (λg p=>by
  rcases m g p with h | h
  simp[Value.ownBlock] at h
  exact h.1)
theorem FR (w:World) (F:Nat→Prop) (A:Option Addr) (n c:Nat) (row:List bj) (j:Rd bJ w F A n c row) (l:n≤1000000):
 Calls prog 201 [.slice A n c].toArray w (ik bJ w (dg row)):=by
 refine aW func201 ntmps201 ?_;refine aL ?_;refine Lu (λg v a=>ik bJ g (dg row) (.returned v) a) rfl pM rfl (λw' m=>(oE w' F A n c row (j.ext m.ext av) l).mono ?_) ?_;rintro e a ⟨b,d,c1,rfl,h,f⟩;exact⟨_,rfl,h,b,d,c1,rfl,h,f⟩;rintro g v a o s ⟨b,d,c1,p,_,f⟩ q _;cases p
 refine ax ?_;intro t i;exact⟨b,d,c1,rfl,q.dZ i.ext,(f.dL i.ext).dJ (λk r=>fs o.ext.size r)⟩
theorem FS (w:World) (F:Nat→Prop) (A:Option Addr) (n c:Nat) (row:List bj) (h:Rd bJ w F A n c row) (t:n≤1000000):
 Calls prog 286 [.slice A n c].toArray w (λe w'=>e= .returned (.int .i64 (lg row:Int))∧Ext [] w w'):=by
 have l:=h.len
 refine aW func286 ntmps286 ?_;refine b_ ?_;refine b1 (ι:=Nat) (λk=>[(0,.slice A n c),(3,.int .i64 (k:Int))]) (λ_=>af w [] []) (λk=>k≤n∧lg row=lg (row.take k)) (λk=>k) ?_ ?_;exact λw a=>⟨n,⟨ch _,by rw[←l,uk]⟩,(iJ rfl rfl),a⟩
 rintro k ⟨u,b⟩;refine al ?_;refine aX 8 rfl (λd=>?_) (λd=>?_);have m:=a1 d
 obtain⟨x,i⟩ : ∃x,row[k - 1]? = some x:=⟨row[k - 1]'aa,bG _⟩;obtain⟨b2,v,_,o⟩:=h.at_ i;have j:lg (row.take k)=if x.r=0 then lg (row.take (k - 1)) else k:=by
  have e:row.take k=row.take (k - 1)++[x]:=by
   rw[show k=k - 1+1 by omega,gk,i];rfl
  rw[e,Px,dv,iE aa,show k - 1+1=k by omega]
 refine aD ?_;refine bw (q:=k - 1) dB rfl rfl rfl bA aa aa ?_;refine ah ?_;refine a7 jz rfl rfl (λw' f=>f.ct (o 0 _ rfl) av) ?_;refine ax ?_;refine aj (λg=>?_) (λg=>?_);refine aJ ?_;refine bg (k - 1) ⟨aa,by rw[b,j,ay g]⟩ aa (Sub.cons bb (Sub.cons (by simp[look];omega) Sub.nil)) (λw' f=>f);refine bI ?_;intro p a;exact⟨by rw[b,j,ag g],a.ext⟩;have m:=bc d
 refine jC ?_;intro p a;have s:k=0:=by omega
 subst s;exact⟨by rw[b];rfl,a.ext⟩
theorem uP (w:World) (cols:Int):Calls prog 279 [.int .i64 cols].toArray w (λe w'=>e= .returned (.bool (decide (2≤cols) && decide (cols≤1000)))∧Ext [] w w'):=by
 refine aW func279 ntmps279 ?_;refine aR ?_;refine aX 5 rfl (λh=>?_) (λh=>?_);have ai:=a1 h
 refine aR ?_;intro b a;exact⟨by simp[ai],a.ext⟩;have ai:=bc h
 refine aL ?_;intro b a;exact⟨by simp[ai],a.ext⟩
abbrev bS:=List bj × Bool
structure eu (w:World) (F:Nat→Prop) (A:Option Addr) (n c:Nat) (rows:List bS):Prop where
 hC: ∃eN:List pX,Rd lf w F A n c eN∧eN.map (·.cont)=rows.map (·.2)∧ ∀(k:Nat) (r:pX) (row:bS),eN[k]? = some r→rows[k]? = some row→Rd bJ w F r.A r.n r.c row.1
theorem eu.len {w:World} {F:Nat→Prop} {A:Option Addr} {n c:Nat} {rows:List bS} (h:eu w F A n c rows):rows.length=n:=by
 obtain⟨eN,a,b,_⟩:=h.hC;have:=aV List.length b
 simp only[cT] at this
 rw[←this,a.len]
theorem eu.ext {w w':World} {F:Nat→Prop} {S:List Nat} {A:Option Addr} {n c:Nat} {rows:List bS} (h:eu w F A n c rows) (a:Ext S w w') (b: ∀k,F k→k∉S):eu w' F A n c rows:=by
 obtain⟨eN,d,e,f⟩:=h.hC;exact⟨eN,d.ext a b,e,λk r row g i=>(f k r row g i).ext a b⟩
theorem eu.dJ {w:World} {F F':Nat→Prop} {A:Option Addr} {n c:Nat} {rows:List bS} (h:eu w F A n c rows) (a: ∀k,F k→F' k):eu w F' A n c rows:=by
 obtain⟨eN,b,d,e⟩:=h.hC;exact⟨eN,b.dJ a,d,λk r row f g=>(e k r row f g).dJ a⟩
theorem eu.at_ {w:World} {F:Nat→Prop} {A:Option Addr} {n c:Nat} {rows:List bS} (h:eu w F A n c rows) {k:Nat} {row:bS} (a:rows[k]? = some row):
 ∃b2 e m d,A=some b2∧F b2.block∧(∀j u,([.slice e m d,.bool row.2]:List Value)[j]? = some u→w.cell? ((b2.add (k*2)).add j)=some u)∧Rd bJ w F e m d row.1:=by
 obtain⟨eN,i,f,o⟩:=h.hC;have v:=(cY.1 a).1
 have x:eN.length=rows.length:=by simpa using aV List.length f
 obtain⟨r,b⟩ : ∃r,eN[k]? = some r:=⟨eN[k]'aa,bG _⟩;have p:r.cont=row.2:=by
  have:=aV (λl=>l[k]?) f
  simp only[eJ,b,a,ol,dI] at this
  exact this
 obtain⟨b2,q,s,t⟩:=i.at_ b;exact⟨b2,r.A,r.n,r.c,q,s,λj u g=>t j u (by rw[←p] at g;exact g),o k r row b a⟩
def cellsOf (rows:List bS):List bj:=(rows.flatMap (·.1)).filter (λc=>decide (c.half≠3))
def q4 (rows:List bS):List bj:=Ar (dg (cellsOf rows))
theorem FT (rows:List bS) (r:bS):cellsOf (rows++[r])=cellsOf rows++r.1.filter (λc=>decide (c.half≠3)):=by simp[cellsOf]
theorem kx {α:Type} {l:List α} {k:Nat} {a:α} (h:l[k]? = some a):l.take (k+1)=l.take k++[a]:=by rw[gk,h];rfl
theorem As {α:Type} (p:α→Bool) (l:List α) (a:α): (l++[a]).filter p=if p a=true then l.filter p++[a] else l.filter p:=by
 by_cases h:p a=true <;> simp[h]
def eb (rows:List bS):Nat:=(rows.map (·.1.length)).sum
theorem xl (rows:List bS): (cellsOf rows).length≤eb rows:=by
 unfold cellsOf eb;refine fs (List.length_filter_le _ _) ?_;rw[List.length_flatMap];exact ch _
theorem At (rows:List bS) (k:Nat):eb (rows.take k)≤eb rows:=by
 have h:=i7 k rows
 have:eb rows=eb (rows.take k)+eb (rows.drop k):=by
  conv=>lhs;rw[←h]
  simp only[eb,gf,List.sum_append]
 omega
theorem Pz (w:World) (F:Nat→Prop) (A:Option Addr) (n c:Nat) (rows:List bS) (G:eu w F A n c rows) (Zk:n≤1000000) (O:eb rows≤1000000):
 Calls prog 282 [.slice A n c].toArray w (ik bJ w (q4 rows)):=by
 have Zl:=G.len
 refine aW func282 ntmps282 ?_;refine jS 283 8 ?_;refine eM ?_;refine b1 (ι:=Nat × Value × List bj) (λi=>[(3,i.2.1),(8,.slice A n c),(9,.int .i64 (n:Int)),(10,.int .i64 (i.1 :Int))]) (λi=>af w [] [own 283 8 i.2.1 i.2.2.length (bJ.all i.2.2)]) (λi=>i.1≤n∧i.2.2=cellsOf (rows.take i.1)∧ ∀g,i.2.1.ownBlock=some g→w.heap.size≤g) (λi=>n - i.1) ?_ ?_;exact λw b=>⟨(0,.slice none 0 0,[]),⟨bP _,rfl,by simp[Value.ownBlock]⟩,(cw rfl rfl rfl rfl),b⟩
 rintro⟨k,v,L⟩ ⟨z,e,H⟩;dsimp only at z e H ⊢
 refine al ?_;refine aj (λP=>?_) (λP=>?_);obtain⟨row,B⟩ : ∃row,rows[k]? = some row:=⟨rows[k]'aa,bG _⟩;obtain⟨b2,Q,m,d,Zm,_,R,I⟩:=G.at_ B;have S:=I.len
 have Zn:L.length+m≤1000000:=by
  have T:=At rows (k+1)
  rw[kx B] at T
  have Zo:eb (rows.take k++[row])=eb (rows.take k)+m:=by simp[eb,S]
  have r:=xl (rows.take k)
  rw[e];omega
 refine al ?_;refine bw dM rfl rfl rfl bA bb aa ?_;refine cy gP rfl rfl (rfl) (λw' a j u f=>a.ct (R j u f) av) ?_;refine ar ?_;intro Zp Zq Zr;refine bB ?_;refine b1 (ι:=Nat × Value × List bj) (λi=>[(3,i.2.1),(8,.slice A n c),(9,.int .i64 (n:Int)),(10,.int .i64 (k:Int)),(15,.slice Q m d),(16,.int .i64 (m:Int)),(17,.int .i64 (i.1 :Int))]) (λi=>af w [] [own 283 8 i.2.1 i.2.2.length (bJ.all i.2.2)]) (λi=>i.1≤m∧i.2.2=L++(row.1.take i.1).filter (λc=>decide (c.half≠3))∧ ∀g,i.2.1.ownBlock=some g→w.heap.size≤g) (λi=>m - i.1) ?_ ?_;exact λw b=>⟨(0,v,L),⟨bP _,by simp,H⟩,(hq rfl rfl rfl rfl rfl rfl rfl),b.rem bv.head⟩
 rintro⟨j,J,s⟩ ⟨f,o,t⟩;dsimp only at f o t ⊢
 have K:s.length≤L.length+j:=by
  rw[o,b8];have:=List.length_filter_le (λc:bj=>decide (c.half≠3)) (row.1.take j)
  rw[dv] at this
  omega
 refine al ?_;refine aj (λU=>?_) (λU=>?_);obtain⟨x,C⟩ : ∃x,row.1[j]? = some x:=⟨row.1[j]'aa,bG _⟩;obtain⟨Zs,Zt,_,V⟩:=I.at_ C;refine al ?_;refine bw dB rfl rfl rfl bA bb aa ?_;refine cy jU rfl rfl (rfl) (λw' a j u f=>a.ct (V j u f) av) ?_;refine ar ?_;intro Zu Zv Zw;refine aR ?_;refine aj (λr=>?_) (λr=>?_);refine aS ?_;intro Zx Zy Zz;refine gv dB rfl rfl rfl bi (λ_=>by exact er) rfl (Ao rfl rfl rfl rfl rfl rfl rfl rfl) (by simp only[maxLen];omega) aa (λW X=>?_);refine aL ?_;refine bg (j+1,W,s++[x]) ⟨aa,by rw[kx C,As,ay (b5 r),o,fh],λg Y=>by
  rcases X g Y with h | h
  exact t g h;exact h.1⟩ aa (hq rfl rfl rfl rfl rfl rfl rfl) (λw' a=>?_)
 rw[b8,bx.hk];exact a.rem bv.head;refine aD ?_;refine bg (j+1,J,s) ⟨aa,by rw[kx C,As,ag (λh=>r (a1 h)),o],t⟩ aa (hq rfl rfl rfl rfl rfl rfl rfl) (λw' a=>a.rem bv.head);refine aR ?_;have Z:j=m:=by omega
 subst Z;refine bg (k+1,J,s) ⟨aa,by rw[kx B,FT,o,e,ez (l:=row.1) aa],t⟩ aa (cw rfl rfl rfl rfl) (λw' a=>a);have Za:k=n:=by omega
 subst Za;rw[ez aa] at e
 have K:L.length≤1000000:=by rw[e];exact fs (xl rows) O
 refine aL ?_;refine DQ (λZA D=>?_);obtain⟨Zb,c1,rfl,Zc⟩:=Rd.ga (E:=bJ) (D.has Has.head) rfl;refine zq rfl zS rfl (λw' a=>FR w' _ Zb L.length c1 L (Zc.ext a.ext av) K) ?_;intro ZB ZC Zd Ze Zf M Zg ZD y;have Zh:=y.len
 rw[hN] at Zh
 refine aD ?_;refine ao rfl EW rfl (λw' a=>FS w' _ Zd Ze Zf _ (y.ext a.ext av) aa) ?_;have Zi:=Pw (dg L)
 rw[hN] at Zi
 have ZE:=y.cap
 refine ft 0 (lg (dg L)) dB rfl rfl (.inr ⟨rfl,rfl⟩) (.inl ⟨_,_,rfl,rfl,rfl⟩) aa aa ?_;refine ax ?_;intro ZF b;have Zj:=y.cut (p:=0) (q:=lg (dg L)) aa aa
 refine⟨_,_,_,rfl,(D.ext.dZ M.ext).dZ (Zg.dZ b.ext),?_⟩;have N:=(Zj.dL b.ext).dJ (F':=λk=>w.heap.size≤k) (λk z=>fs (fs D.ext.size M.ext.size) z)
 rw[pq] at N
 subst e;exact N
def nu (c:bj):bj:=if c.half=3 then gR c.at_ else c
def uQ (l:List bj):List bj:=dg (l.map nu)
theorem PA (l:List bj): (uQ l).length=l.length:=by rw[uQ,hN,cT]
theorem PB (w:World) (F:Nat→Prop) (A:Option Addr) (n c:Nat) (l:List bj) (p:Rd bJ w F A n c l) (t:n≤1000000):
 Calls prog 365 [.slice A n c].toArray w (ik bJ w (uQ l)):=by
 have q:=p.len
 refine aW func365 ntmps365 ?_
 refine jS 283 8 ?_
 refine aL ?_
 refine nc (E:=bJ) dB rfl rfl rfl (λ_=>by exact cA) (λw' a=>p.ext a.ext av) (by simp only[maxLen];omega) aa (λy Q=>?_)
 refine ax ?_
 refine hE (v:=y) Has.head (λd c0 z R S T B=>?_)
 subst z
 rw[dA] at *
 refine aD ?_
 refine b1 (ι:=List bj × List bj) (λi=>[(3,.slice d n c0),(8,.slice d n c0),(9,.int .i64 (n:Int)),(10,.int .i64 (i.1.length:Int))]) (λi=>af w [] [own 283 8 (.slice d n c0) n (bJ.all (i.1.map nu++i.2))]) (λi=>l=i.1++i.2) (λi=>i.2.length) ?_ ?_
 ·exact λw e=>⟨([],l),rfl,(cw rfl rfl rfl rfl),e⟩
 ·rintro⟨pre,rest⟩ b
  dsimp only at b ⊢
  have C:pre.length+rest.length=n:=by rw[←q,b,b8]
  refine al ?_
  refine aj (λD=>?_) (λD=>?_)
  ·cases rest with
   | nil=>simp at C;omega
   | cons x rest=>
   obtain⟨g,rfl⟩:=B aa
   have f: (pre.map nu++x::rest)[pre.length]? = some x:=by simp[kY]
   refine aD ?_
   refine bw dB rfl rfl rfl bb bb aa ?_
   refine cy jU rfl rfl (rfl) (λw' a j u G=>a.k4 (E:=bJ) Has.head f j u G) ?_
   refine ar ?_
   intro U V W
   refine bp ?_
   refine aj (λh=>?_) (λh=>?_)
   ·refine al ?_
    refine bw dB rfl rfl rfl bb bb aa ?_
    refine jT (o:=pre.length*8) jU rfl rfl er (by simp[Addr.add_lit]) rfl (bJ.hj (gR x.at_)) (by rw[bJ.dE];show pre.length*8+8≤_*8;simp;omega) ?_
    refine aD ?_
    refine bg (pre++[x],rest) (by simp[b]) av (Sub.cons bb (Sub.cons bb (Sub.cons bb (Sub.cons (by simp[look]) Sub.nil)))) (λw' a=>?_)
    have r:=bJ.hl (L:=pre.map nu++x::rest) (i:=pre.length) (gR x.at_) av
    have H: (pre.map nu++x::rest).set pre.length (gR x.at_)=(pre++[x]).map nu++rest:=by simp[nu,h]
    rw[H] at r
    have:=a.rem bv.head
    dsimp only
    rw[←r]
    exact this
   ·refine aD ?_
    refine bg (pre++[x],rest) (by simp[b]) av (Sub.cons bb (Sub.cons bb (Sub.cons bb (Sub.cons (by simp[look]) Sub.nil)))) (λw' a=>?_)
    have:=a.rem bv.head
    simpa [nu,h] using this
  ·have I:rest=[]:=iZ aa
   subst I
   rw[fR] at b
   subst b
   refine aL ?_
   refine DQ (λJ m=>?_)
   have K:J.ownsRow 0 283 8 (.slice d n c0) n (bJ.all (l.map nu)):=by
    have:=m.has Has.head
    rw[fR] at this
    exact this
   obtain⟨X,c1,M,N⟩:=Rd.ga (E:=bJ) K (by rw[cT,q])
   cases M
   refine zq rfl zS rfl (λw' a=>FR w' _ d n c0 _ (N.ext a.ext av) t) ?_
   intro Y Z Za Zb Zc s O Zd P
   refine ax ?_
   intro Ze e
   exact⟨_,_,_,rfl,(m.ext.dZ s.ext).dZ (O.dZ e.ext),(P.dL e.ext).dJ (λk f=>fs (fs m.ext.size s.ext.size) f)⟩
def eH (l:List bj) (cols:Nat):Nat:=
 if l.length<cols then l.length else if (l[cols - 1]?.map (·.half))=some 1 then cols - 1 else cols
theorem Au (w:World) (F:Nat→Prop) (A:Option Addr) (n c:Nat) (l:List bj) (cols:Nat) (f:Rd bJ w F A n c l) (m:n≤4000000) (o:1≤cols) (p:cols≤1000):
 Calls prog 366 [.slice A n c,.int .i64 (cols:Int)].toArray w (λe w'=>e= .returned (.int .i64 (eH l cols:Int))∧Ext [] w w'):=by
 have h:=f.len
 refine aW func366 ntmps366 ?_;refine b_ ?_;refine aj (λi=>?_) (λi=>?_);refine aR ?_;intro g a;exact⟨by rw[eH,ay aa,h],a.ext⟩;obtain⟨x,b⟩ : ∃x,l[cols - 1]? = some x:=⟨l[cols - 1]'aa,bG _⟩;obtain⟨b2,r,_,j⟩:=f.at_ b;refine aL ?_;refine bw (q:=cols - 1) dB rfl rfl rfl bA aa aa ?_;refine ar ?_;refine a7 bM rfl rfl (λw' k=>k.ct (j 2 _ rfl) av) ?_;refine ah ?_;refine aj (λd=>?_) (λd=>?_);refine aR ?_;intro g a;refine⟨?_,a.ext⟩;rw[eH,ag aa,ay (by rw[b];simp[d]),show ((cols - 1 :Nat):Int)=(cols:Int) - 1 by omega];refine aR ?_;intro g a;refine⟨?_,a.ext⟩;rw[eH,ag aa,ag (by rw[b];simpa using d)]
def q5:bj:={ gS with half:=3 }
def Av (left:List bj) (cols:Nat):List bj:=left.drop (eH left cols)
theorem Aw (l:List bj) (cols:Nat):eH l cols≤l.length∧eH l cols≤cols:=by
 unfold eH;split
 omega
 split <;> omega
theorem PC (l:List bj) (cols:Nat) (b:2≤cols) (a:l≠[]):1≤eH l cols:=by
 have:0<l.length:=ug.2 a
 unfold eH;split
 omega
 split <;> omega
theorem PD (l:List bj) (cols:Nat): (Av l cols).length=l.length - eH l cols:=by simp[Av]
theorem PE {α:Type} (E:bx α) (l:List α) (k:Nat): (E.all l).drop (k*E.sz)=E.all (l.drop k):=by
 induction k generalizing l with
 | zero=>simp
 | succ k b=>
  cases l with
  | nil=>simp[bx.all]
  | cons a l=>
   have:E.all (a::l)=E.enc a++E.all l:=by simp[bx.all]
   rw[this,i8,Nat.one_mul,Nat.add_comm,←mr,List.drop_left' (E.len a),List.drop_succ_cons];exact b l
theorem PF {α:Type} (E:bx α) (a:α) (m:Nat):fa (E.enc a) m=E.all (List.replicate m a):=by
 induction m with
 | zero=>simp[fa,bx.all]
 | succ m b=>
  have: ∀(l:List α),E.all (a::l)=E.enc a++E.all l:=λl=>by simp[bx.all]
  rw[mv,this,fa,b]
theorem FU (m:Nat):fa [.int .i32 0,.string ByteArray.empty,.int .i64 0,.int .i64 0,.int .i64 0,.int .i64 0,.int .i64 0,.int .i64 0] m=bJ.all (List.replicate m gS):=PF bJ gS m
end Go.Proofs.YtoghoobfpcadbaaGreatDoor.Mq
namespace Go.Proofs.YtoghoobfpcadbaaGreatDoor.Mq
open Go Go.RowKit Go.Proofs
theorem eu.xm {w:World} {F:Nat→Prop} {A:Option Addr} {n c:Nat} {rows:List bS} (h:eu w F A n c rows):n≤c∧c≤maxLen:=by
 obtain⟨eN,a,_⟩:=h.hC;exact⟨a.cap,a.max⟩
def uR (rows:List bS):Nat→Nat
 | 0=>0
 | i+1=>if (rows[i+1]?.map (·.2))=some true then uR rows i else i+1
def nv (out:List (Int × Int)) (i:Int) (c:Bool):List (Int × Int):=
 match out.getLast? with
 | some p=>if c then out.dropLast++[(p.1,i+1)] else out++[(i,i+1)]
 | none=>[(i,i+1)]
def nw (rows:List bS) (k:Nat):Bool:=(rows[k]?.map (·.2)).getD false
def ky (rows:List bS):Nat→List (Int × Int)
 | 0=>[]
 | k+1=>nv (ky rows k) k (nw rows k)
theorem PG (L:List (Int × Int)) (i:Int) (c:Bool): (nv L i c).length≤L.length+1:=by
 unfold nv;split
 split <;> simp
 simp
theorem Ax (rows:List bS) (k:Nat): (ky rows k).length≤k:=by
 induction k with
 | zero=>simp[ky]
 | succ k a=>
  have:=PG (ky rows k) k (nw rows k)
  rw[ky];omega
def xn (rows:List bS) (a e:Nat):Prop:= ∀k,a≤k→k<e→uR rows k=a
def uS (rows:List bS):Nat→List (Int × Int)→Nat→Prop
 | a,[],b=>a=b
 | a,p::L,b=> ∃e:Nat,p=((a:Int),(e:Int))∧a<e∧xn rows a e∧nw rows e=false∧uS rows e L b
theorem FV {rows:List bS} {s e:Nat} (b:s<e) (c:xn rows s e) (d:nw rows e=false): ∀(M:List (Int × Int)) (a:Nat),uS rows a M s→uS rows a (M++[((s:Int),(e:Int))]) e
 | [],a,h=>by
  have h:a=s:=h
  subst h;exact⟨e,rfl,b,c,d,rfl⟩
 | p::M,a,h=>by
  obtain⟨f,g,i,j,k,l⟩:=h;exact⟨f,g,i,j,k,FV b c d M f l⟩
theorem FW {rows:List bS}: ∀(M:List (Int × Int)) (a b:Nat),uS rows a M b→a≤b
 | [],a,b,h=>Nat.le_of_eq h
 | p::M,a,b,h=>by
  obtain⟨c,_,e,_,_,d⟩:=h;have:=FW M c b d
  omega
def sF (rows:List bS) (n:Nat) (a:Nat) (L:List (Int × Int)):Prop:=(L=[]∧a=n)∨ ∃(M:List (Int × Int)) (s:Nat),L=M++[((s:Int),(n:Int))]∧s<n∧xn rows s n∧uS rows a M s
theorem FX {rows:List bS} (k:Nat):uR rows k=if k=0 then 0 else if nw rows k=true then uR rows (k - 1) else k:=by
 cases k with
 | zero=>rfl
 | succ k=>
  rw[uR,nw];cases h:rows[k+1]? <;> simp
theorem Ay (rows:List bS) (k:Nat):sF rows k 0 (ky rows k):=by
 induction k with
 | zero=>exact .inl ⟨rfl,rfl⟩
 | succ k g=>
  rw[ky];rcases g with ⟨b,c⟩ | ⟨M,s,b,c,d,e⟩
  subst c;rw[b];refine .inr ⟨[],0,rfl,aa,λj b c=>?_,rfl⟩;have:j=0:=by omega
  subst this;rfl
  rw[b];simp only[nv,List.getLast?_append,List.getLast?_singleton,Option.some_or,List.dropLast_concat];by_cases a:nw rows k=true
  rw[ay a];refine .inr ⟨M,s,rfl,aa,λj f h=>?_,e⟩;by_cases i:j=k
  subst i;rw[FX,ag aa,ay a];exact d _ aa aa;exact d j f aa;rw[ag a];refine .inr ⟨M++[((s:Int),(k:Int))],k,rfl,aa,λj f h=>?_,FV c d (by simpa using a) M 0 e⟩;have:j=k:=by omega
  subst this;rw[FX,ag aa,ag a]
theorem Az {rows:List bS} {n a:Nat} {p:Int × Int} {L:List (Int × Int)} (h:sF rows n a (p::L)): ∃e:Nat,p=((a:Int),(e:Int))∧a<e∧e≤n∧xn rows a e∧(e<n→nw rows e=false)∧sF rows n e L:=by
 rcases h with ⟨h,_⟩ | ⟨M,s,b,d,f,c⟩
 cases h
 cases M with
 | nil=>
  have c:a=s:=c
  subst c;simp only[oe,rQ] at b
  obtain⟨rfl,rfl⟩:=b;exact⟨n,rfl,d,ch _,f,λh=>absurd h aa,.inl ⟨rfl,rfl⟩⟩
 | cons q M=>
  simp only[mq,rQ] at b
  obtain⟨rfl,rfl⟩:=b;obtain⟨e,i,j,k,l,g⟩:=c;have:=FW M e s g
  exact⟨e,i,j,aa,k,λ_=>l,.inr ⟨M,s,rfl,d,f,g⟩⟩
end Go.Proofs.YtoghoobfpcadbaaGreatDoor.Mq
