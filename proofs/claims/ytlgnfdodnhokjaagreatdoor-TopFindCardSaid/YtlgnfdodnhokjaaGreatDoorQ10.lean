/- part 10 of the proof -/
import Derived.Test.YtlgnfdodnhokjaaGreatDoorQ09
namespace Go.Proofs.YtlgnfdodnhokjaaGreatDoor.Mq
open Go Go.RowKit Go.Proofs Tryz
structure hO where
 di:Int
 fn:Int
 an:Int
 aM:Int
 fl:Int
structure bh where
 r:Int
 more:List UInt8
 half:Int
 at_:hO
abbrev hO.enc (a:hO):List Value:=[.int .i64 a.di,.int .i64 a.fn,.int .i64 a.an,.int .i64 a.aM,.int .i64 a.fl]
abbrev bh.enc (c:bh):List Value:=[.int .i32 c.r,.string (bs c.more),.int .i64 c.half,.int .i64 c.at_.di,.int .i64 c.at_.fn,.int .i64 c.at_.an,.int .i64 c.at_.aM,.int .i64 c.at_.fl]
def bK:bA bh:=⟨bh.enc,8,λ_=>rfl,λ_=>by repeat (first | exact aI.nil | refine aI.cons rfl ?_)⟩
structure p2 where
 A:Option Addr
 n:Nat
 c:Nat
 cont:Bool
abbrev p2.enc (r:p2):List Value:=[.slice r.A r.n r.c,.bool r.cont]
def lh:bA p2:=⟨p2.enc,2,λ_=>rfl,λ_=>aI.cons rfl (aI.cons rfl aI.nil)⟩
structure aY where
 row:Int
 cM:Int
 deriving DecidableEq
abbrev aY.enc (p:aY):List Value:=[.int .i64 p.row,.int .i64 p.cM]
def cf:bA aY:=⟨aY.enc,2,λ_=>rfl,λ_=>aI.cons rfl (aI.cons rfl aI.nil)⟩
def mP:bA (Int × Int):=⟨λp=>[.int .i64 p.1,.int .i64 p.2],2,λ_=>rfl,λ_=>aI.cons rfl (aI.cons rfl aI.nil)⟩
def bT:bA Int:=⟨λp=>[.int .i64 p],1,λ_=>rfl,λ_=>aI.cons rfl aI.nil⟩
theorem hO.ext' {a b:hO} (c:a.di=b.di) (d:a.fn=b.fn) (e:a.an=b.an) (f:a.aM=b.aM) (g:a.fl=b.fl):a=b:=by
 cases a;cases b;simp_all
theorem bh.ext' {a b:bh} (c:a.r=b.r) (d:a.more=b.more) (e:a.half=b.half) (f:a.at_=b.at_):a=b:=by
 cases a;cases b;simp_all
instance:DecidableEq hO:=λa b=>
 if h:a.di=b.di∧a.fn=b.fn∧a.an=b.an∧a.aM=b.aM∧a.fl=b.fl then isTrue (hO.ext' h.1 h.2.1 h.2.2.1 h.2.2.2.1 h.2.2.2.2)
 else isFalse λe=>h (by subst e;exact⟨rfl,rfl,rfl,rfl,rfl⟩)
instance:DecidableEq bh:=λa b=>
 if h:a.r=b.r∧a.more=b.more∧a.half=b.half∧a.at_=b.at_ then isTrue (bh.ext' h.1 h.2.1 h.2.2.1 h.2.2.2)
 else isFalse λe=>h (by subst e;exact⟨rfl,rfl,rfl,rfl⟩)
theorem P4 (a b:bh):eqv a.enc b.enc=decide (a=b):=by
 rw[Bool.eq_iff_iff];simp only[eqv,sr,d4,e9,qH,bs];constructor
 rintro⟨c,d,e,f,g,h,i,j⟩;exact bh.ext' c (by simpa using d) e (hO.ext' f g h i j)
 rintro rfl;simp
theorem AE (a b:aY):eqv a.enc b.enc=decide (a=b):=by
 rw[Bool.eq_iff_iff];simp only[eqv,sr,d4,e9,qH];constructor
 rintro⟨c,d⟩;cases a;cases b;simp_all
 rintro rfl;simp
def gY (a:hO):bh:=⟨0,[],0,a⟩
def P5:hO:=⟨0,0,0,0,0⟩
def gZ:bh:=gY P5
def xu (a b:bh):Bool:=decide (a.half=1) && decide (a= { b with half:=1 })
def p3 (c d:bh):Bool:=decide (c.half=1) && decide (d.half=2) && xu c d
def uY (c:bh):List bh→Bool
 | []=>false
 | d::_=>p3 c d
def dg:List bh→List bh
 | []=>[]
 | [c]=>[if c.half=0∨c.half=3 then c else gY c.at_]
 | c::d::l=>if c.half=0 then c::dg (d::l) else if p3 c d then c::d::dg l else gY c.at_::dg (d::l)
theorem hP (l:List bh): (dg l).length=l.length:=by
 fun_induction dg l <;> simp_all
def li (l:List bh):Nat:=((l.reverse.dropWhile (λc=>decide (c.r=0))).length)
theorem P6 (l:List bh):li l≤l.length:=by
 unfold li;have:=(List.dropWhile_sublist (λc:bh=>decide (c.r=0)) (l:=l.reverse)).length_le
 simpa using this
def AF (l:List bh):List bh:=l.take (li l)
theorem Gb: ∀(l:List bh),dg (dg l)=dg l:=by
 intro l;fun_induction dg l with
 | case1=>rfl
 | case2 c=>
  split
  rename_i h;simp[dg,h]
  simp[dg,gY]
 | case3 c d l h a=>
  have b:dg (d::l)≠[]:=λe=>by have:=hP (d::l);rw[e] at this;simp at this
  obtain⟨x,xs,f⟩:=List.exists_cons_of_ne_nil b;rw[f] at a ⊢
  simp only[dg,h,if_true,a]
 | case4 c d l h ai a=>simp[dg,h,ai,a]
 | case5 c d l h ai a=>
  have b:dg (d::l)≠[]:=λe=>by have:=hP (d::l);rw[e] at this;simp at this
  obtain⟨x,xs,f⟩:=List.exists_cons_of_ne_nil b;rw[f] at a ⊢
  simp only[dg,gY,if_true,a]
theorem P7 (l:List bh) (c:bh):li (l++[c])=if c.r=0 then li l else l.length+1:=by
 unfold li;rw[uv,List.reverse_singleton,sb,List.dropWhile_cons];by_cases h:c.r=0
 simp[h]
 simp[h]
theorem Gc (w:World) (a:hO):Calls prog 412 [.agg a.enc.toArray].toArray w (λe w'=>e= .returned (.agg (gY a).enc.toArray)∧Ext [] w w'):=by
 refine aV func412 ntmps412 ?_;refine ah ?_;intro c d f;refine ar ?_;intro g h i;refine bp ?_;intro j b;exact⟨rfl,b.ext⟩
theorem P8 (w:World) (a b:bh):Calls prog 411 [.agg a.enc.toArray,.agg b.enc.toArray].toArray w (λe w'=>e= .returned (.bool (xu a b))∧Ext [] w w'):=by
 refine aV func411 ntmps411 ?_;refine ah ?_;intro f g i;refine ar ?_;intro j k l;refine cF ?_;refine aW 9 rfl (λh=>?_) (λh=>?_);have ai:=aX h
 refine ay ?_;refine zx MC rfl rfl rfl ab (P4 a { b with half:=1 }) ?_;refine al ?_;intro d c;exact⟨by simp[xu,ai],c.ext⟩;have ai:=bd h
 refine aJ ?_;intro d c;exact⟨by simp[xu,ai],c.ext⟩
theorem xv (w:World) (v:Value) (row:List bh) (Q:w.ownsRow 0 215 8 v row.length (bK.all row)) (Z:row.length≤1000000):
 Calls prog 358 [v].toArray w (λe w'=>e= .returned (.tuple #[])∧Ext v.ownBlock.toList w w'∧w'.ownsRow 0 215 8 v row.length (bK.all (dg row))):=by
 refine calls (n:=67) func358 rfl ntmps358 rfl ?_
 refine cH (H':=af w (own 215 8 v row.length (bK.all row)).ch [own 215 8 v row.length (bK.all row)]) ?_ (Sub.refl _) (λx R=>af.qY R Q (uE _ _ _ _ _))
 refine al ?_
 refine b2 (ι:=List bh × List bh) (λi=>[(0,v),(2,.int .i64 (i.1.length:Int))]) (λi=>af w (own 215 8 v row.length (bK.all row)).ch [own 215 8 v row.length (bK.all (i.1++i.2))]) (λi=>dg row=i.1++dg i.2∧i.1.length+i.2.length=row.length) (λi=>i.2.length) ?_ ?_
 ·exact λw F=>⟨([],row),⟨rfl,by simp⟩,(iK rfl rfl),F⟩
 ·rintro⟨pre,rest⟩ ⟨t,a⟩
  dsimp only at t a ⊢
  refine hE (v:=v) Has.head (λA p S Za Zb Zc T=>?_)
  subst S
  refine aJ ?_
  refine aj (λU=>?_) (λU=>?_)
  ·cases rest with
   | nil=>simp at a;omega
   | cons c rest=>
   obtain⟨g,rfl⟩:=T aa
   have V: (pre++c::rest)[pre.length]? = some c:=by simp
   refine aK ?_
   refine bC dv rfl rfl rfl bc bc aa ?_
   refine cx j0 rfl rfl (rfl) (λw' m j u I=>m.k5 (E:=bK) Has.head V j u I) ?_
   refine ar ?_
   intro G Zd Ze
   refine ay ?_
   have N: (((pre.length:Int)=(row.length:Int) - 1)↔rest=[]):=by
    constructor
    ·intro h;simp at a;exact iC aa
    ·intro h;subst h;simp at a;omega
   refine oF ([(20,.bool (decide (c.half=0) || (decide (c.half=3) && decide ((pre.length:Int)=(row.length:Int) - 1)))),(0,.slice (some ⟨g,0,none⟩) row.length p),(2,.int .i64 (pre.length:Int)),(3,.pointer (some ⟨G,0,none⟩))]) (af w (own 215 8 (.slice (some ⟨g,0,none⟩) row.length p) row.length (bK.all row)).ch [aD G c.enc 215,own 215 8 (.slice (some ⟨g,0,none⟩) row.length p) row.length (bK.all (pre++c::rest))]) ?_ ?_
   ·refine ay ?_
    refine aW 24 rfl (λr=>?_) (λr=>?_)
    ·have H:=aX r
     refine bH ?_
     exact gy (Sub.cons (aU (λx=>some (Value.bool x)) (by simp[H])) (em rfl rfl rfl)) (λ_ h=>h)
    ·have H:=bd r
     refine aK ?_
     refine aW 28 rfl (λb=>?_) (λb=>?_)
     ·have J:=aX b
      refine cF ?_
      exact gy (Sub.cons (aU (λx=>some (Value.bool x)) (by simp[H,J])) (em rfl rfl rfl)) (λ_ h=>h)
     ·have J:=bd b
      refine aQ ?_
      exact gy (Sub.cons (aU (λx=>some (Value.bool x)) (by simp[H,J])) (em rfl rfl rfl)) (λ_ h=>h)
   ·refine ar ?_
    refine b1 rfl (λf=>?_) (λf=>?_)
    ·refine aJ ?_
     have y:dg (c::rest)=c::dg rest:=by
      rw[mx,d4] at f
      simp only[e9] at f
      cases rest with
      | nil=>rcases f with h | ⟨h,_⟩ <;> simp[dg,h]
      | cons d l=>
       rcases f with h | ⟨h,z⟩
       ·simp[dg,h]
       ·exact absurd (N.1 z) av
     refine bi (pre++[c],rest) ⟨by rw[t,y];simp,by simp at a ⊢;omega⟩ av (Sub.cons bc (Sub.cons (by simp[look]) Sub.nil)) (λw' m=>?_)
     have:=m.rem bw.head
     simpa using this
    ·rw[Bool.or_eq_false_iff] at f
     have K:c.half≠0:=bd f.1
     refine ar ?_
     refine oF ([(36,.bool (uY c rest)),(0,.slice (some ⟨g,0,none⟩) row.length p),(2,.int .i64 (pre.length:Int)),(3,.pointer (some ⟨G,0,none⟩))]) (af w (own 215 8 (.slice (some ⟨g,0,none⟩) row.length p) row.length (bK.all row)).ch [aD G c.enc 215,own 215 8 (.slice (some ⟨g,0,none⟩) row.length p) row.length (bK.all (pre++c::rest))]) ?_ ?_
     ·by_cases r:c.half=1
      ·cases rest with
       | nil=>
        have b:decide ((pre.length:Int)+1<(row.length:Int))=false:=cg (by simp at a;omega)
        refine bF [0,1,2,3,4,5,6,7,8,9,10,11,12,13,14,15,16,17,18,19,20,21,22,23,24,25,26,27,28] 0 [[]] ?_
        refine AB ?_
        exact gy (cj rfl rfl rfl rfl) (λ_ h=>h)
       | cons d rest=>
        have b:decide ((pre.length:Int)+1<(row.length:Int))=true:=bX (by simp at a;omega)
        have Zf:pre.length+1<row.length:=by simp at a;omega
        have M: (pre++c::d::rest)[pre.length+1]? = some d:=by simp[kp]
        by_cases s:d.half=2
        ·refine bF [0,1,2,3,4,5,6,7,8,9,10,11,12,13,14,15,16,17,18,19,20,21,22,23,24,25] 1 [[(26,false,[27,28])]] ?_
         refine b7 ?_
         refine aL rfl (λB k=>(cC rfl rfl b (bC (q:=pre.length+1) dv rfl rfl rfl bc aa aa aG))) ?_
         refine ar ?_
         refine aL rfl (λB k=>(cC rfl rfl b (a_ bN rfl rfl (λO C=>by subst C;exact k.k5 (E:=bK) bJ M 2 _ rfl) aG))) ?_
         refine aC ?_
         refine aL rfl (λB k=>(cC rfl rfl (bX s) (bC (q:=pre.length+1) dv rfl rfl rfl bc aa aa aG))) ?_
         refine aL rfl (λB k=>(cC rfl rfl (bX s) (cx j0 rfl rfl (rfl) (λO C j u I=>by subst C;exact k.k5 (E:=bK) bJ M j u I) aG))) ?_
         refine ah ?_
         refine ao rfl Pw rfl (λw' _=>P8 w' c d) ?_
         refine ay ?_
         exact gy (Sub.cons (aU (λx=>some (Value.bool x)) (by simp[uY,p3,r,s])) (em rfl rfl rfl)) (λ_ h=>h)
        ·refine bF [0,1,2,3,4,5,6,7,8,9,10,11,12,13,14,15,16,17,18,19,20,21,22,23,24,25,26,27,28] 0 [[]] ?_
         refine b7 ?_
         refine aL rfl (λB k=>(cC rfl rfl b (bC (q:=pre.length+1) dv rfl rfl rfl bc aa aa aG))) ?_
         refine ar ?_
         refine aL rfl (λB k=>(cC rfl rfl b (a_ bN rfl rfl (λO C=>by subst C;exact k.k5 (E:=bK) bJ M 2 _ rfl) aG))) ?_
         refine b7 ?_
         exact gy (Sub.cons (aU (λx=>some (Value.bool x)) (by simp[uY,p3,s])) (em rfl rfl rfl)) (λ_ h=>h)
      ·refine bF [0,1,2,3,4,5,6,7,8,9,10,11,12,13,14,15,16,17,18,19,20,21,22,23,24,25,26,27,28] 0 [[]] ?_
       refine AB ?_
       exact gy (Sub.cons (aU (λx=>some (Value.bool x)) (by cases rest <;> simp[uY,p3,r])) (em rfl rfl rfl)) (λ_ h=>h)
     ·refine ar ?_
      refine b1 rfl (λD=>?_) (λD=>?_)
      ·cases rest with
       | nil=>cases D
       | cons d rest=>
        refine bH ?_
        have y:dg (c::d::rest)=c::d::dg rest:=by
         simp only[dg,ag K]
         rw[aw (show p3 c d=true from D)]
        refine bi (pre++[c,d],rest) ⟨by rw[t,y];simp,by simp at a ⊢;omega⟩ (by simp;omega) (Sub.cons bc (Sub.cons (by simp[look];omega) Sub.nil)) (λw' m=>?_)
        have:=m.rem bw.head
        simpa using this
      ·refine ay ?_
       refine ao rfl FA rfl (λw' _=>Gc w' c.at_) ?_
       refine bC dv rfl rfl rfl bc bc aa ?_
       refine mI (o:=pre.length*8) j0 rfl rfl ew (by simp[Addr.add_lit]) rfl (bK.jc (gY c.at_)) (by rw[bK.dI];show pre.length*8+8≤_*8;simp;omega) ?_
       refine aJ ?_
       have y:dg (c::rest)=gY c.at_::dg rest:=by
        cases rest with
        | nil=>
         have s:c.half≠3:=λh=>by
          have:=f.2
          rw[um] at this
          rcases this with z | z
          ·exact bd z h
          ·exact bd z (N.2 rfl)
         simp[dg,K,s]
        | cons d l=>
         simp only[uY] at D
         simp[dg,K,D]
       refine bi (pre++[gY c.at_],rest) ⟨by rw[t,y];simp,by simp at a ⊢;omega⟩ av (Sub.cons bc (Sub.cons (by simp[look]) Sub.nil)) (λw' m=>?_)
       have:=m.rem bw.head
       have P:=bK.je (L:=pre++c::rest) (i:=pre.length) (gY c.at_) av
       have W: (pre++c::rest).set pre.length (gY c.at_)=(pre++[gY c.at_])++rest:=by simp
       rw[W] at P
       rw[←P]
       exact this
  ·refine ay ?_
   intro Zg F
   have X:rest=[]:=iC aa
   subst X
   have Y:dg row=pre++[]:=t
   exact⟨rfl,F.ext,by rw[Y];exact F.has Has.head⟩
theorem Gd (w:World) (v:Value):Calls prog 280 [v].toArray w (λe w'=>e= .returned (.tuple #[])∧Ext [] w w'):=by
 refine aV func280 ntmps280 ?_;refine aq ?_;intro b a;exact⟨rfl,a.ext⟩
theorem oQ (w:World) (F:Nat→Prop) (A:Option Addr) (n c:Nat) (row:List bh) (k:Rd bK w F A n c row) (q:n≤1000000):
 Calls prog 279 [.slice A n c,.func (.func 280) #[] #[]].toArray w (il bK w (dg row)):=by
 have a:=k.len
 refine aV func279 ntmps279 ?_;refine jZ 215 8 ?_;refine aK ?_;refine oH (E:=bK) dv rfl rfl rfl (λ_=>by exact cA) (λw' b=>k.ext b.ext av) (by simp only[maxLen];omega) aa (λf m=>?_);refine al ?_;refine qX (v:= .tuple #[]) (c':=own 215 8 f (0+n) (bK.all (dg row))) rfl xa rfl cA bc (λw' b=>(xv w' f row (by have:=b.has Has.head;rw[dE] at this;rw[a];exact this) aa).mono ?_) ?_;rintro e o ⟨i,j,d⟩;exact⟨i,j,by rw[dE];rw[a] at d;exact d⟩;refine al ?_;refine gU rfl rfl Fg rfl (λw' _=>Gd w' _) ?_;refine ay ?_;refine qX (v:= .tuple #[]) (c':=own 215 8 f (0+n) (bK.all (dg row))) rfl xa rfl cA bc (λw' b=>(xv w' f (dg row) (by have:=b.has Has.head;rw[dE] at this;rw[hP,a];exact this) (by rw[hP];omega)).mono ?_) ?_;rintro e o ⟨i,j,d⟩;exact⟨i,j,by rw[dE];rw[hP,a,Gb] at d;exact d⟩;refine aQ ?_;intro r l;exact il.gf l.ext (l.has Has.head) (by rw[hP,a,dE]) (λg p=>by
  rcases m g p with h | h
  simp[Value.ownBlock] at h
  exact h.1)
theorem Ge (w:World) (F:Nat→Prop) (A:Option Addr) (n c:Nat) (row:List bh) (j:Rd bK w F A n c row) (l:n≤1000000):
 Calls prog 200 [.slice A n c].toArray w (il bK w (dg row)):=by
 refine aV func200 ntmps200 ?_;refine aK ?_;refine L8 (λg v a=>il bK g (dg row) (.returned v) a) rfl pR rfl (λw' m=>(oQ w' F A n c row (j.ext m.ext av) l).mono ?_) ?_;rintro e a ⟨b,d,c1,rfl,h,f⟩;exact⟨_,rfl,h,b,d,c1,rfl,h,f⟩;rintro g v a o s ⟨b,d,c1,p,_,f⟩ q _;cases p
 refine ay ?_;intro t i;exact⟨b,d,c1,rfl,q.dW i.ext,(f.dJ i.ext).dC (λk r=>fp o.ext.size r)⟩
theorem Gf (w:World) (F:Nat→Prop) (A:Option Addr) (n c:Nat) (row:List bh) (h:Rd bK w F A n c row) (t:n≤1000000):
 Calls prog 276 [.slice A n c].toArray w (λe w'=>e= .returned (.int .i64 (li row:Int))∧Ext [] w w'):=by
 have l:=h.len
 refine aV func276 ntmps276 ?_;refine b7 ?_;refine b2 (ι:=Nat) (λk=>[(0,.slice A n c),(3,.int .i64 (k:Int))]) (λ_=>af w [] []) (λk=>k≤n∧li row=li (row.take k)) (λk=>k) ?_ ?_;exact λw a=>⟨n,⟨bW _,by rw[←l,ow]⟩,(iK rfl rfl),a⟩
 rintro k ⟨u,b⟩;refine al ?_;refine aW 8 rfl (λd=>?_) (λd=>?_);have m:=aX d
 obtain⟨x,i⟩ : ∃x,row[k - 1]? = some x:=⟨row[k - 1]'aa,bE _⟩;obtain⟨bY,v,_,o⟩:=h.at_ i;have j:li (row.take k)=if x.r=0 then li (row.take (k - 1)) else k:=by
  have e:row.take k=row.take (k - 1)++[x]:=by
   rw[show k=k - 1+1 by omega,fR,i];rfl
  rw[e,P7,dl,iG aa,show k - 1+1=k by omega]
 refine aC ?_;refine bC (q:=k - 1) dv rfl rfl rfl bv aa aa ?_;refine ah ?_;refine a_ jC rfl rfl (λw' f=>f.cu (o 0 _ rfl) av) ?_;refine ay ?_;refine aj (λg=>?_) (λg=>?_);refine aJ ?_;refine bi (k - 1) ⟨aa,by rw[b,j,aw g]⟩ aa (Sub.cons bc (Sub.cons (by simp[look];omega) Sub.nil)) (λw' f=>f);refine bH ?_;intro p a;exact⟨by rw[b,j,ag g],a.ext⟩;have m:=bd d
 refine jF ?_;intro p a;have s:k=0:=by omega
 subst s;exact⟨by rw[b];rfl,a.ext⟩
theorem uZ (w:World) (cols:Int):Calls prog 269 [.int .i64 cols].toArray w (λe w'=>e= .returned (.bool (decide (2≤cols) && decide (cols≤1000)))∧Ext [] w w'):=by
 refine aV func269 ntmps269 ?_;refine aQ ?_;refine aW 5 rfl (λh=>?_) (λh=>?_);have ai:=aX h
 refine aQ ?_;intro b a;exact⟨by simp[ai],a.ext⟩;have ai:=bd h
 refine aK ?_;intro b a;exact⟨by simp[ai],a.ext⟩
abbrev bG:=List bh × Bool
structure ez (w:World) (F:Nat→Prop) (A:Option Addr) (n c:Nat) (rows:List bG):Prop where
 hC: ∃eS:List p2,Rd lh w F A n c eS∧eS.map (·.cont)=rows.map (·.2)∧ ∀(k:Nat) (r:p2) (row:bG),eS[k]? = some r→rows[k]? = some row→Rd bK w F r.A r.n r.c row.1
theorem ez.len {w:World} {F:Nat→Prop} {A:Option Addr} {n c:Nat} {rows:List bG} (h:ez w F A n c rows):rows.length=n:=by
 obtain⟨eS,a,b,_⟩:=h.hC;have:=aU List.length b
 simp only[cB] at this
 rw[←this,a.len]
theorem ez.ext {w w':World} {F:Nat→Prop} {S:List Nat} {A:Option Addr} {n c:Nat} {rows:List bG} (h:ez w F A n c rows) (a:Ext S w w') (b: ∀k,F k→k∉S):ez w' F A n c rows:=by
 obtain⟨eS,d,e,f⟩:=h.hC;exact⟨eS,d.ext a b,e,λk r row g i=>(f k r row g i).ext a b⟩
theorem ez.dC {w:World} {F F':Nat→Prop} {A:Option Addr} {n c:Nat} {rows:List bG} (h:ez w F A n c rows) (a: ∀k,F k→F' k):ez w F' A n c rows:=by
 obtain⟨eS,b,d,e⟩:=h.hC;exact⟨eS,b.dC a,d,λk r row f g=>(e k r row f g).dC a⟩
theorem ez.at_ {w:World} {F:Nat→Prop} {A:Option Addr} {n c:Nat} {rows:List bG} (h:ez w F A n c rows) {k:Nat} {row:bG} (a:rows[k]? = some row):
 ∃bY e m d,A=some bY∧F bY.block∧(∀j u,([.slice e m d,.bool row.2]:List Value)[j]? = some u→w.cell? ((bY.add (k*2)).add j)=some u)∧Rd bK w F e m d row.1:=by
 obtain⟨eS,i,f,o⟩:=h.hC;have v:=(cK.1 a).1
 have x:eS.length=rows.length:=by simpa using aU List.length f
 obtain⟨r,b⟩ : ∃r,eS[k]? = some r:=⟨eS[k]'aa,bE _⟩;have p:r.cont=row.2:=by
  have:=aU (λl=>l[k]?) f
  simp only[eD,b,a,oz,dA] at this
  exact this
 obtain⟨bY,q,s,t⟩:=i.at_ b;exact⟨bY,r.A,r.n,r.c,q,s,λj u g=>t j u (by rw[←p] at g;exact g),o k r row b a⟩
def cellsOf (rows:List bG):List bh:=(rows.flatMap (·.1)).filter (λc=>decide (c.half≠3))
def rf (rows:List bG):List bh:=AF (dg (cellsOf rows))
theorem Gg (rows:List bG) (r:bG):cellsOf (rows++[r])=cellsOf rows++r.1.filter (λc=>decide (c.half≠3)):=by simp[cellsOf]
theorem kC {α:Type} {l:List α} {k:Nat} {a:α} (h:l[k]? = some a):l.take (k+1)=l.take k++[a]:=by rw[fR,h];rfl
theorem AG {α:Type} (p:α→Bool) (l:List α) (a:α): (l++[a]).filter p=if p a=true then l.filter p++[a] else l.filter p:=by
 by_cases h:p a=true <;> simp[h]
def d8 (rows:List bG):Nat:=(rows.map (·.1.length)).sum
theorem xw (rows:List bG): (cellsOf rows).length≤d8 rows:=by
 unfold cellsOf d8;refine fp (List.length_filter_le _ _) ?_;rw[List.length_flatMap];exact bW _
theorem AH (rows:List bG) (k:Nat):d8 (rows.take k)≤d8 rows:=by
 have h:=iF k rows
 have:d8 rows=d8 (rows.take k)+d8 (rows.drop k):=by
  conv=>lhs;rw[←h]
  simp only[d8,fQ,List.sum_append]
 omega
theorem P9 (w:World) (F:Nat→Prop) (A:Option Addr) (n c:Nat) (rows:List bG) (G:ez w F A n c rows) (Zk:n≤1000000) (O:d8 rows≤1000000):
 Calls prog 272 [.slice A n c].toArray w (il bK w (rf rows)):=by
 have Zl:=G.len
 refine aV func272 ntmps272 ?_;refine jZ 215 8 ?_;refine eL ?_;refine b2 (ι:=Nat × Value × List bh) (λi=>[(3,i.2.1),(8,.slice A n c),(9,.int .i64 (n:Int)),(10,.int .i64 (i.1 :Int))]) (λi=>af w [] [own 215 8 i.2.1 i.2.2.length (bK.all i.2.2)]) (λi=>i.1≤n∧i.2.2=cellsOf (rows.take i.1)∧ ∀g,i.2.1.ownBlock=some g→w.heap.size≤g) (λi=>n - i.1) ?_ ?_;exact λw b=>⟨(0,.slice none 0 0,[]),⟨bP _,rfl,by simp[Value.ownBlock]⟩,(cj rfl rfl rfl rfl),b⟩
 rintro⟨k,v,L⟩ ⟨z,e,H⟩;dsimp only at z e H ⊢
 refine al ?_;refine aj (λP=>?_) (λP=>?_);obtain⟨row,B⟩ : ∃row,rows[k]? = some row:=⟨rows[k]'aa,bE _⟩;obtain⟨bY,Q,m,d,Zm,_,R,I⟩:=G.at_ B;have S:=I.len
 have Zn:L.length+m≤1000000:=by
  have T:=AH rows (k+1)
  rw[kC B] at T
  have Zo:d8 (rows.take k++[row])=d8 (rows.take k)+m:=by simp[d8,S]
  have r:=xw (rows.take k)
  rw[e];omega
 refine al ?_;refine bC dK rfl rfl rfl bv bc aa ?_;refine cx gV rfl rfl (rfl) (λw' a j u f=>a.cu (R j u f) av) ?_;refine ar ?_;intro Zp Zq Zr;refine bx ?_;refine b2 (ι:=Nat × Value × List bh) (λi=>[(3,i.2.1),(8,.slice A n c),(9,.int .i64 (n:Int)),(10,.int .i64 (k:Int)),(15,.slice Q m d),(16,.int .i64 (m:Int)),(17,.int .i64 (i.1 :Int))]) (λi=>af w [] [own 215 8 i.2.1 i.2.2.length (bK.all i.2.2)]) (λi=>i.1≤m∧i.2.2=L++(row.1.take i.1).filter (λc=>decide (c.half≠3))∧ ∀g,i.2.1.ownBlock=some g→w.heap.size≤g) (λi=>m - i.1) ?_ ?_;exact λw b=>⟨(0,v,L),⟨bP _,by simp,H⟩,(gX rfl rfl rfl rfl rfl rfl rfl),b.rem bw.head⟩
 rintro⟨j,J,s⟩ ⟨f,o,t⟩;dsimp only at f o t ⊢
 have K:s.length≤L.length+j:=by
  rw[o,b6];have:=List.length_filter_le (λc:bh=>decide (c.half≠3)) (row.1.take j)
  rw[dl] at this
  omega
 refine al ?_;refine aj (λU=>?_) (λU=>?_);obtain⟨x,C⟩ : ∃x,row.1[j]? = some x:=⟨row.1[j]'aa,bE _⟩;obtain⟨Zs,Zt,_,V⟩:=I.at_ C;refine al ?_;refine bC dv rfl rfl rfl bv bc aa ?_;refine cx j0 rfl rfl (rfl) (λw' a j u f=>a.cu (V j u f) av) ?_;refine ar ?_;intro Zu Zv Zw;refine aQ ?_;refine aj (λr=>?_) (λr=>?_);refine aS ?_;intro Zx Zy Zz;refine gx dv rfl rfl rfl bj (λ_=>by exact ew) rfl (AA rfl rfl rfl rfl rfl rfl rfl rfl) (by simp only[maxLen];omega) aa (λW X=>?_);refine aK ?_;refine bi (j+1,W,s++[x]) ⟨aa,by rw[kC C,AG,aw (bX r),o,ea],λg Y=>by
  rcases X g Y with h | h
  exact t g h;exact h.1⟩ aa (gX rfl rfl rfl rfl rfl rfl rfl) (λw' a=>?_)
 rw[b6,bA.hn];exact a.rem bw.head;refine aC ?_;refine bi (j+1,J,s) ⟨aa,by rw[kC C,AG,ag (λh=>r (aX h)),o],t⟩ aa (gX rfl rfl rfl rfl rfl rfl rfl) (λw' a=>a.rem bw.head);refine aQ ?_;have Z:j=m:=by omega
 subst Z;refine bi (k+1,J,s) ⟨aa,by rw[kC B,Gg,o,e,ev (l:=row.1) aa],t⟩ aa (cj rfl rfl rfl rfl) (λw' a=>a);have Za:k=n:=by omega
 subst Za;rw[ev aa] at e
 have K:L.length≤1000000:=by rw[e];exact fp (xw rows) O
 refine aK ?_;refine D9 (λZA D=>?_);obtain⟨Zb,c1,rfl,Zc⟩:=Rd.gf (E:=bK) (D.has Has.head) rfl;refine zz rfl z_ rfl (λw' a=>Ge w' _ Zb L.length c1 L (Zc.ext a.ext av) K) ?_;intro ZB ZC Zd Ze Zf M Zg ZD y;have Zh:=y.len
 rw[hP] at Zh
 refine aC ?_;refine ao rfl Fe rfl (λw' a=>Gf w' _ Zd Ze Zf _ (y.ext a.ext av) aa) ?_;have Zi:=P6 (dg L)
 rw[hP] at Zi
 have ZE:=y.cap
 refine fz 0 (li (dg L)) dv rfl rfl (.inr ⟨rfl,rfl⟩) (.inl ⟨_,_,rfl,rfl,rfl⟩) aa aa ?_;refine ay ?_;intro ZF b;have Zj:=y.cut (p:=0) (q:=li (dg L)) aa aa
 refine⟨_,_,_,rfl,(D.ext.dW M.ext).dW (Zg.dW b.ext),?_⟩;have N:=(Zj.dJ b.ext).dC (F':=λk=>w.heap.size≤k) (λk z=>fp (fp D.ext.size M.ext.size) z)
 rw[nf] at N
 subst e;exact N
def nE (c:bh):bh:=if c.half=3 then gY c.at_ else c
def u0 (l:List bh):List bh:=dg (l.map nE)
theorem P_ (l:List bh): (u0 l).length=l.length:=by rw[u0,hP,cB]
theorem Qa (w:World) (F:Nat→Prop) (A:Option Addr) (n c:Nat) (l:List bh) (p:Rd bK w F A n c l) (t:n≤1000000):
 Calls prog 350 [.slice A n c].toArray w (il bK w (u0 l)):=by
 have q:=p.len
 refine aV func350 ntmps350 ?_
 refine jZ 215 8 ?_
 refine aK ?_
 refine oH (E:=bK) dv rfl rfl rfl (λ_=>by exact cA) (λw' a=>p.ext a.ext av) (by simp only[maxLen];omega) aa (λy Q=>?_)
 refine ay ?_
 refine hE (v:=y) Has.head (λd c0 z R S T B=>?_)
 subst z
 rw[dE] at *
 refine aC ?_
 refine b2 (ι:=List bh × List bh) (λi=>[(3,.slice d n c0),(8,.slice d n c0),(9,.int .i64 (n:Int)),(10,.int .i64 (i.1.length:Int))]) (λi=>af w [] [own 215 8 (.slice d n c0) n (bK.all (i.1.map nE++i.2))]) (λi=>l=i.1++i.2) (λi=>i.2.length) ?_ ?_
 ·exact λw e=>⟨([],l),rfl,(cj rfl rfl rfl rfl),e⟩
 ·rintro⟨pre,rest⟩ b
  dsimp only at b ⊢
  have C:pre.length+rest.length=n:=by rw[←q,b,b6]
  refine al ?_
  refine aj (λD=>?_) (λD=>?_)
  ·cases rest with
   | nil=>simp at C;omega
   | cons x rest=>
   obtain⟨g,rfl⟩:=B aa
   have f: (pre.map nE++x::rest)[pre.length]? = some x:=by simp[kp]
   refine aC ?_
   refine bC dv rfl rfl rfl bc bc aa ?_
   refine cx j0 rfl rfl (rfl) (λw' a j u G=>a.k5 (E:=bK) Has.head f j u G) ?_
   refine ar ?_
   intro U V W
   refine bp ?_
   refine aj (λh=>?_) (λh=>?_)
   ·refine al ?_
    refine bC dv rfl rfl rfl bc bc aa ?_
    refine mI (o:=pre.length*8) j0 rfl rfl ew (by simp[Addr.add_lit]) rfl (bK.jc (gY x.at_)) (by rw[bK.dI];show pre.length*8+8≤_*8;simp;omega) ?_
    refine aC ?_
    refine bi (pre++[x],rest) (by simp[b]) av (Sub.cons bc (Sub.cons bc (Sub.cons bc (Sub.cons (by simp[look]) Sub.nil)))) (λw' a=>?_)
    have r:=bK.je (L:=pre.map nE++x::rest) (i:=pre.length) (gY x.at_) av
    have H: (pre.map nE++x::rest).set pre.length (gY x.at_)=(pre++[x]).map nE++rest:=by simp[nE,h]
    rw[H] at r
    have:=a.rem bw.head
    dsimp only
    rw[←r]
    exact this
   ·refine aC ?_
    refine bi (pre++[x],rest) (by simp[b]) av (Sub.cons bc (Sub.cons bc (Sub.cons bc (Sub.cons (by simp[look]) Sub.nil)))) (λw' a=>?_)
    have:=a.rem bw.head
    simpa [nE,h] using this
  ·have I:rest=[]:=iC aa
   subst I
   rw[eu] at b
   subst b
   refine aK ?_
   refine D9 (λJ m=>?_)
   have K:J.ownsRow 0 215 8 (.slice d n c0) n (bK.all (l.map nE)):=by
    have:=m.has Has.head
    rw[eu] at this
    exact this
   obtain⟨X,c1,M,N⟩:=Rd.gf (E:=bK) K (by rw[cB,q])
   cases M
   refine zz rfl z_ rfl (λw' a=>Ge w' _ d n c0 _ (N.ext a.ext av) t) ?_
   intro Y Z Za Zb Zc s O Zd P
   refine ay ?_
   intro Ze e
   exact⟨_,_,_,rfl,(m.ext.dW s.ext).dW (O.dW e.ext),(P.dJ e.ext).dC (λk f=>fp (fp m.ext.size s.ext.size) f)⟩
def eM (l:List bh) (cols:Nat):Nat:=
 if l.length<cols then l.length else if (l[cols - 1]?.map (·.half))=some 1 then cols - 1 else cols
theorem AI (w:World) (F:Nat→Prop) (A:Option Addr) (n c:Nat) (l:List bh) (cols:Nat) (f:Rd bK w F A n c l) (m:n≤4000000) (o:1≤cols) (p:cols≤1000):
 Calls prog 351 [.slice A n c,.int .i64 (cols:Int)].toArray w (λe w'=>e= .returned (.int .i64 (eM l cols:Int))∧Ext [] w w'):=by
 have h:=f.len
 refine aV func351 ntmps351 ?_;refine b7 ?_;refine aj (λi=>?_) (λi=>?_);refine aQ ?_;intro g a;exact⟨by rw[eM,aw aa,h],a.ext⟩;obtain⟨x,b⟩ : ∃x,l[cols - 1]? = some x:=⟨l[cols - 1]'aa,bE _⟩;obtain⟨bY,r,_,j⟩:=f.at_ b;refine aK ?_;refine bC (q:=cols - 1) dv rfl rfl rfl bv aa aa ?_;refine ar ?_;refine a_ bN rfl rfl (λw' k=>k.cu (j 2 _ rfl) av) ?_;refine ah ?_;refine aj (λd=>?_) (λd=>?_);refine aQ ?_;intro g a;refine⟨?_,a.ext⟩;rw[eM,ag aa,aw (by rw[b];simp[d]),show ((cols - 1 :Nat):Int)=(cols:Int) - 1 by omega];refine aQ ?_;intro g a;refine⟨?_,a.ext⟩;rw[eM,ag aa,ag (by rw[b];simpa using d)]
def rg:bh:={ gZ with half:=3 }
def AJ (left:List bh) (cols:Nat):List bh:=left.drop (eM left cols)
theorem AK (l:List bh) (cols:Nat):eM l cols≤l.length∧eM l cols≤cols:=by
 unfold eM;split
 omega
 split <;> omega
theorem Qb (l:List bh) (cols:Nat) (b:2≤cols) (a:l≠[]):1≤eM l cols:=by
 have:0<l.length:=uo.2 a
 unfold eM;split
 omega
 split <;> omega
theorem Qc (l:List bh) (cols:Nat): (AJ l cols).length=l.length - eM l cols:=by simp[AJ]
theorem Qd {α:Type} (E:bA α) (l:List α) (k:Nat): (E.all l).drop (k*E.sz)=E.all (l.drop k):=by
 induction k generalizing l with
 | zero=>simp
 | succ k b=>
  cases l with
  | nil=>simp[bA.all]
  | cons a l=>
   have:E.all (a::l)=E.enc a++E.all l:=by simp[bA.all]
   rw[this,ja,Nat.one_mul,Nat.add_comm,←lJ,List.drop_left' (E.len a),List.drop_succ_cons];exact b l
theorem Qe {α:Type} (E:bA α) (a:α) (m:Nat):ff (E.enc a) m=E.all (List.replicate m a):=by
 induction m with
 | zero=>simp[ff,bA.all]
 | succ m b=>
  have: ∀(l:List α),E.all (a::l)=E.enc a++E.all l:=λl=>by simp[bA.all]
  rw[mD,this,ff,b]
theorem Gh (m:Nat):ff [.int .i32 0,.string ByteArray.empty,.int .i64 0,.int .i64 0,.int .i64 0,.int .i64 0,.int .i64 0,.int .i64 0] m=bK.all (List.replicate m gZ):=Qe bK gZ m
end Go.Proofs.YtlgnfdodnhokjaaGreatDoor.Mq
namespace Go.Proofs.YtlgnfdodnhokjaaGreatDoor.Mq
open Go Go.RowKit Go.Proofs
theorem ez.xx {w:World} {F:Nat→Prop} {A:Option Addr} {n c:Nat} {rows:List bG} (h:ez w F A n c rows):n≤c∧c≤maxLen:=by
 obtain⟨eS,a,_⟩:=h.hC;exact⟨a.cap,a.max⟩
def u1 (rows:List bG):Nat→Nat
 | 0=>0
 | i+1=>if (rows[i+1]?.map (·.2))=some true then u1 rows i else i+1
def nF (out:List (Int × Int)) (i:Int) (c:Bool):List (Int × Int):=
 match out.getLast? with
 | some p=>if c then out.dropLast++[(p.1,i+1)] else out++[(i,i+1)]
 | none=>[(i,i+1)]
def nG (rows:List bG) (k:Nat):Bool:=(rows[k]?.map (·.2)).getD false
def jl (rows:List bG):Nat→List (Int × Int)
 | 0=>[]
 | k+1=>nF (jl rows k) k (nG rows k)
theorem Qf (L:List (Int × Int)) (i:Int) (c:Bool): (nF L i c).length≤L.length+1:=by
 unfold nF;split
 split <;> simp
 simp
theorem AL (rows:List bG) (k:Nat): (jl rows k).length≤k:=by
 induction k with
 | zero=>simp[jl]
 | succ k a=>
  have:=Qf (jl rows k) k (nG rows k)
  rw[jl];omega
def xy (rows:List bG) (a e:Nat):Prop:= ∀k,a≤k→k<e→u1 rows k=a
def u2 (rows:List bG):Nat→List (Int × Int)→Nat→Prop
 | a,[],b=>a=b
 | a,p::L,b=> ∃e:Nat,p=((a:Int),(e:Int))∧a<e∧xy rows a e∧nG rows e=false∧u2 rows e L b
theorem Gi {rows:List bG} {s e:Nat} (b:s<e) (c:xy rows s e) (d:nG rows e=false): ∀(M:List (Int × Int)) (a:Nat),u2 rows a M s→u2 rows a (M++[((s:Int),(e:Int))]) e
 | [],a,h=>by
  have h:a=s:=h
  subst h;exact⟨e,rfl,b,c,d,rfl⟩
 | p::M,a,h=>by
  obtain⟨f,g,i,j,k,l⟩:=h;exact⟨f,g,i,j,k,Gi b c d M f l⟩
theorem Gj {rows:List bG}: ∀(M:List (Int × Int)) (a b:Nat),u2 rows a M b→a≤b
 | [],a,b,h=>Nat.le_of_eq h
 | p::M,a,b,h=>by
  obtain⟨c,_,e,_,_,d⟩:=h;have:=Gj M c b d
  omega
def oR (rows:List bG) (n:Nat) (a:Nat) (L:List (Int × Int)):Prop:=(L=[]∧a=n)∨ ∃(M:List (Int × Int)) (s:Nat),L=M++[((s:Int),(n:Int))]∧s<n∧xy rows s n∧u2 rows a M s
theorem Gk {rows:List bG} (k:Nat):u1 rows k=if k=0 then 0 else if nG rows k=true then u1 rows (k - 1) else k:=by
 cases k with
 | zero=>rfl
 | succ k=>
  rw[u1,nG];cases h:rows[k+1]? <;> simp
theorem u3 (rows:List bG) (k:Nat):oR rows k 0 (jl rows k):=by
 induction k with
 | zero=>exact .inl ⟨rfl,rfl⟩
 | succ k g=>
  rw[jl];rcases g with ⟨b,c⟩ | ⟨M,s,b,c,d,e⟩
  subst c;rw[b];refine .inr ⟨[],0,rfl,aa,λj b c=>?_,rfl⟩;have:j=0:=by omega
  subst this;rfl
  rw[b];simp only[nF,List.getLast?_append,List.getLast?_singleton,Option.some_or,List.dropLast_concat];by_cases a:nG rows k=true
  rw[aw a];refine .inr ⟨M,s,rfl,aa,λj f h=>?_,e⟩;by_cases i:j=k
  subst i;rw[Gk,ag aa,aw a];exact d _ aa aa;exact d j f aa;rw[ag a];refine .inr ⟨M++[((s:Int),(k:Int))],k,rfl,aa,λj f h=>?_,Gi c d (by simpa using a) M 0 e⟩;have:j=k:=by omega
  subst this;rw[Gk,ag aa,ag a]
theorem sS {rows:List bG} {n a:Nat} {p:Int × Int} {L:List (Int × Int)} (h:oR rows n a (p::L)): ∃e:Nat,p=((a:Int),(e:Int))∧a<e∧e≤n∧xy rows a e∧(e<n→nG rows e=false)∧oR rows n e L:=by
 rcases h with ⟨h,_⟩ | ⟨M,s,b,d,f,c⟩
 cases h
 cases M with
 | nil=>
  have c:a=s:=c
  subst c;simp only[lO,r4] at b
  obtain⟨rfl,rfl⟩:=b;exact⟨n,rfl,d,bW _,f,λh=>absurd h aa,.inl ⟨rfl,rfl⟩⟩
 | cons q M=>
  simp only[my,r4] at b
  obtain⟨rfl,rfl⟩:=b;obtain⟨e,i,j,k,l,g⟩:=c;have:=Gj M e s g
  exact⟨e,i,j,aa,k,λ_=>l,.inr ⟨M,s,rfl,d,f,g⟩⟩
end Go.Proofs.YtlgnfdodnhokjaaGreatDoor.Mq
