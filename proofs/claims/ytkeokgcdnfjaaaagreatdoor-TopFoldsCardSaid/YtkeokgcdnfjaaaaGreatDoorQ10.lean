/- part 10 of the proof -/
import Derived.Test.YtkeokgcdnfjaaaaGreatDoorQ09
namespace Go.Proofs.YtkeokgcdnfjaaaaGreatDoor.Mq
open Go Go.RowKit Go.Proofs Tryz
structure hF where
 dg:Int
 fn:Int
 an:Int
 aM:Int
 fl:Int
structure bh where
 r:Int
 more:List UInt8
 half:Int
 at_:hF
abbrev hF.enc (a:hF):List Value:=[.int .i64 a.dg,.int .i64 a.fn,.int .i64 a.an,.int .i64 a.aM,.int .i64 a.fl]
abbrev bh.enc (c:bh):List Value:=[.int .i32 c.r,.string (bs c.more),.int .i64 c.half,.int .i64 c.at_.dg,.int .i64 c.at_.fn,.int .i64 c.at_.an,.int .i64 c.at_.aM,.int .i64 c.at_.fl]
def bJ:bA bh:=⟨bh.enc,8,λ_=>rfl,λ_=>by repeat (first | exact aI.nil | refine aI.cons rfl ?_)⟩
structure pQ where
 A:Option Addr
 n:Nat
 c:Nat
 cont:Bool
abbrev pQ.enc (r:pQ):List Value:=[.slice r.A r.n r.c,.bool r.cont]
def k7:bA pQ:=⟨pQ.enc,2,λ_=>rfl,λ_=>aI.cons rfl (aI.cons rfl aI.nil)⟩
structure bl where
 row:Int
 dm:Int
 deriving DecidableEq
abbrev bl.enc (p:bl):List Value:=[.int .i64 p.row,.int .i64 p.dm]
def cq:bA bl:=⟨bl.enc,2,λ_=>rfl,λ_=>aI.cons rfl (aI.cons rfl aI.nil)⟩
def mB:bA (Int × Int):=⟨λp=>[.int .i64 p.1,.int .i64 p.2],2,λ_=>rfl,λ_=>aI.cons rfl (aI.cons rfl aI.nil)⟩
def bS:bA Int:=⟨λp=>[.int .i64 p],1,λ_=>rfl,λ_=>aI.cons rfl aI.nil⟩
theorem hF.ext' {a b:hF} (c:a.dg=b.dg) (d:a.fn=b.fn) (e:a.an=b.an) (f:a.aM=b.aM) (g:a.fl=b.fl):a=b:=by
 cases a;cases b;simp_all
theorem bh.ext' {a b:bh} (c:a.r=b.r) (d:a.more=b.more) (e:a.half=b.half) (f:a.at_=b.at_):a=b:=by
 cases a;cases b;simp_all
instance:DecidableEq hF:=λa b=>
 if h:a.dg=b.dg∧a.fn=b.fn∧a.an=b.an∧a.aM=b.aM∧a.fl=b.fl then isTrue (hF.ext' h.1 h.2.1 h.2.2.1 h.2.2.2.1 h.2.2.2.2)
 else isFalse λe=>h (by subst e;exact⟨rfl,rfl,rfl,rfl,rfl⟩)
instance:DecidableEq bh:=λa b=>
 if h:a.r=b.r∧a.more=b.more∧a.half=b.half∧a.at_=b.at_ then isTrue (bh.ext' h.1 h.2.1 h.2.2.1 h.2.2.2)
 else isFalse λe=>h (by subst e;exact⟨rfl,rfl,rfl,rfl⟩)
theorem Pd (a b:bh):eqv a.enc b.enc=decide (a=b):=by
 rw[Bool.eq_iff_iff];simp only[eqv,r7,dY,e3,qt,bs];constructor
 rintro⟨c,d,e,f,g,h,i,j⟩;exact bh.ext' c (by simpa using d) e (hF.ext' f g h i j)
 rintro rfl;simp
theorem Ai (a b:bl):eqv a.enc b.enc=decide (a=b):=by
 rw[Bool.eq_iff_iff];simp only[eqv,r7,dY,e3,qt];constructor
 rintro⟨c,d⟩;cases a;cases b;simp_all
 rintro rfl;simp
def gO (a:hF):bh:=⟨0,[],0,a⟩
def Pe:hF:=⟨0,0,0,0,0⟩
def gP:bh:=gO Pe
def w9 (a b:bh):Bool:=decide (a.half=1) && decide (a= { b with half:=1 })
def pR (c d:bh):Bool:=decide (c.half=1) && decide (d.half=2) && w9 c d
def uB (c:bh):List bh→Bool
 | []=>false
 | d::_=>pR c d
def de:List bh→List bh
 | []=>[]
 | [c]=>[if c.half=0∨c.half=3 then c else gO c.at_]
 | c::d::l=>if c.half=0 then c::de (d::l) else if pR c d then c::d::de l else gO c.at_::de (d::l)
theorem hG (l:List bh): (de l).length=l.length:=by
 fun_induction de l <;> simp_all
def k8 (l:List bh):Nat:=((l.reverse.dropWhile (λc=>decide (c.r=0))).length)
theorem Pf (l:List bh):k8 l≤l.length:=by
 unfold k8;have:=(List.dropWhile_sublist (λc:bh=>decide (c.r=0)) (l:=l.reverse)).length_le
 simpa using this
def Aj (l:List bh):List bh:=l.take (k8 l)
theorem FH: ∀(l:List bh),de (de l)=de l:=by
 intro l;fun_induction de l with
 | case1=>rfl
 | case2 c=>
  split
  rename_i h;simp[de,h]
  simp[de,gO]
 | case3 c d l h a=>
  have b:de (d::l)≠[]:=λe=>by have:=hG (d::l);rw[e] at this;simp at this
  obtain⟨x,xs,f⟩:=List.exists_cons_of_ne_nil b;rw[f] at a ⊢
  simp only[de,h,if_true,a]
 | case4 c d l h ai a=>simp[de,h,ai,a]
 | case5 c d l h ai a=>
  have b:de (d::l)≠[]:=λe=>by have:=hG (d::l);rw[e] at this;simp at this
  obtain⟨x,xs,f⟩:=List.exists_cons_of_ne_nil b;rw[f] at a ⊢
  simp only[de,gO,if_true,a]
theorem Pg (l:List bh) (c:bh):k8 (l++[c])=if c.r=0 then k8 l else l.length+1:=by
 unfold k8;rw[ub,List.reverse_singleton,rR,List.dropWhile_cons];by_cases h:c.r=0
 simp[h]
 simp[h]
theorem FI (w:World) (a:hF):Calls prog 410 [.agg a.enc.toArray].toArray w (λe w'=>e= .returned (.agg (gO a).enc.toArray)∧Ext [] w w'):=by
 refine aW func410 ntmps410 ?_;refine ah ?_;intro c d f;refine aq ?_;intro g h i;refine bo ?_;intro j b;exact⟨rfl,b.ext⟩
theorem Ph (w:World) (a b:bh):Calls prog 409 [.agg a.enc.toArray,.agg b.enc.toArray].toArray w (λe w'=>e= .returned (.bool (w9 a b))∧Ext [] w w'):=by
 refine aW func409 ntmps409 ?_;refine ah ?_;intro f g i;refine aq ?_;intro j k l;refine cE ?_;refine aV 9 rfl (λh=>?_) (λh=>?_);have ai:=aY h
 refine ay ?_;refine zf LQ rfl rfl rfl ab (Pd a { b with half:=1 }) ?_;refine al ?_;intro d c;exact⟨by simp[w9,ai],c.ext⟩;have ai:=a8 h
 refine aJ ?_;intro d c;exact⟨by simp[w9,ai],c.ext⟩
theorem w_ (w:World) (v:Value) (row:List bh) (Q:w.ownsRow 0 282 8 v row.length (bJ.all row)) (Z:row.length≤1000000):
 Calls prog 356 [v].toArray w (λe w'=>e= .returned (.tuple #[])∧Ext v.ownBlock.toList w w'∧w'.ownsRow 0 282 8 v row.length (bJ.all (de row))):=by
 refine calls (n:=67) func356 rfl ntmps356 rfl ?_
 refine cG (H':=af w (own 282 8 v row.length (bJ.all row)).ce [own 282 8 v row.length (bJ.all row)]) ?_ (Sub.refl _) (λx R=>af.qJ R Q (uk _ _ _ _ _))
 refine al ?_
 refine b3 (ι:=List bh × List bh) (λi=>[(0,v),(2,.int .i64 (i.1.length:Int))]) (λi=>af w (own 282 8 v row.length (bJ.all row)).ce [own 282 8 v row.length (bJ.all (i.1++i.2))]) (λi=>de row=i.1++de i.2∧i.1.length+i.2.length=row.length) (λi=>i.2.length) ?_ ?_
 ·exact λw F=>⟨([],row),⟨rfl,by simp⟩,(iA rfl rfl),F⟩
 ·rintro⟨pre,rest⟩ ⟨t,a⟩
  dsimp only at t a ⊢
  refine hv (v:=v) Has.head (λA p S Za Zb Zc T=>?_)
  subst S
  refine aJ ?_
  refine aj (λU=>?_) (λU=>?_)
  ·cases rest with
   | nil=>simp at a;omega
   | cons c rest=>
   obtain⟨g,rfl⟩:=T aa
   have V: (pre++c::rest)[pre.length]? = some c:=by simp
   refine aK ?_
   refine bD dv rfl rfl rfl a7 a7 aa ?_
   refine cw jN rfl rfl (rfl) (λw' m j u I=>m.kX (E:=bJ) Has.head V j u I) ?_
   refine aq ?_
   intro G Zd Ze
   refine ay ?_
   have N: (((pre.length:Int)=(row.length:Int) - 1)↔rest=[]):=by
    constructor
    ·intro h;simp at a;exact iR aa
    ·intro h;subst h;simp at a;omega
   refine oi ([(20,.bool (decide (c.half=0) || (decide (c.half=3) && decide ((pre.length:Int)=(row.length:Int) - 1)))),(0,.slice (some ⟨g,0,none⟩) row.length p),(2,.int .i64 (pre.length:Int)),(3,.pointer (some ⟨G,0,none⟩))]) (af w (own 282 8 (.slice (some ⟨g,0,none⟩) row.length p) row.length (bJ.all row)).ce [aD G c.enc 282,own 282 8 (.slice (some ⟨g,0,none⟩) row.length p) row.length (bJ.all (pre++c::rest))]) ?_ ?_
   ·refine ay ?_
    refine aV 24 rfl (λr=>?_) (λr=>?_)
    ·have H:=aY r
     refine bH ?_
     exact gn (Sub.cons (aX (λx=>some (Value.bool x)) (by simp[H])) (dZ rfl rfl rfl)) (λ_ h=>h)
    ·have H:=a8 r
     refine aK ?_
     refine aV 28 rfl (λb=>?_) (λb=>?_)
     ·have J:=aY b
      refine cE ?_
      exact gn (Sub.cons (aX (λx=>some (Value.bool x)) (by simp[H,J])) (dZ rfl rfl rfl)) (λ_ h=>h)
     ·have J:=a8 b
      refine aR ?_
      exact gn (Sub.cons (aX (λx=>some (Value.bool x)) (by simp[H,J])) (dZ rfl rfl rfl)) (λ_ h=>h)
   ·refine aq ?_
    refine b2 rfl (λf=>?_) (λf=>?_)
    ·refine aJ ?_
     have y:de (c::rest)=c::de rest:=by
      rw[mh,dY] at f
      simp only[e3] at f
      cases rest with
      | nil=>rcases f with h | ⟨h,_⟩ <;> simp[de,h]
      | cons d l=>
       rcases f with h | ⟨h,z⟩
       ·simp[de,h]
       ·exact absurd (N.1 z) av
     refine bg (pre++[c],rest) ⟨by rw[t,y];simp,by simp at a ⊢;omega⟩ av (Sub.cons a7 (Sub.cons (by simp[look]) Sub.nil)) (λw' m=>?_)
     have:=m.rem bv.head
     simpa using this
    ·rw[Bool.or_eq_false_iff] at f
     have K:c.half≠0:=a8 f.1
     refine aq ?_
     refine oi ([(36,.bool (uB c rest)),(0,.slice (some ⟨g,0,none⟩) row.length p),(2,.int .i64 (pre.length:Int)),(3,.pointer (some ⟨G,0,none⟩))]) (af w (own 282 8 (.slice (some ⟨g,0,none⟩) row.length p) row.length (bJ.all row)).ce [aD G c.enc 282,own 282 8 (.slice (some ⟨g,0,none⟩) row.length p) row.length (bJ.all (pre++c::rest))]) ?_ ?_
     ·by_cases r:c.half=1
      ·cases rest with
       | nil=>
        have b:decide ((pre.length:Int)+1<(row.length:Int))=false:=cm (by simp at a;omega)
        refine bG [0,1,2,3,4,5,6,7,8,9,10,11,12,13,14,15,16,17,18,19,20,21,22,23,24,25,26,27,28] 0 [[]] ?_
        refine Ah ?_
        exact gn (cu rfl rfl rfl rfl) (λ_ h=>h)
       | cons d rest=>
        have b:decide ((pre.length:Int)+1<(row.length:Int))=true:=b1 (by simp at a;omega)
        have Zf:pre.length+1<row.length:=by simp at a;omega
        have M: (pre++c::d::rest)[pre.length+1]? = some d:=by simp[kS]
        by_cases s:d.half=2
        ·refine bG [0,1,2,3,4,5,6,7,8,9,10,11,12,13,14,15,16,17,18,19,20,21,22,23,24,25] 1 [[(26,false,[27,28])]] ?_
         refine b5 ?_
         refine aL rfl (λB k=>(cA rfl rfl b (bD (q:=pre.length+1) dv rfl rfl rfl a7 aa aa aG))) ?_
         refine aq ?_
         refine aL rfl (λB k=>(cA rfl rfl b (ba bM rfl rfl (λO C=>by subst C;exact k.kX (E:=bJ) bF M 2 _ rfl) aG))) ?_
         refine aC ?_
         refine aL rfl (λB k=>(cA rfl rfl (b1 s) (bD (q:=pre.length+1) dv rfl rfl rfl a7 aa aa aG))) ?_
         refine aL rfl (λB k=>(cA rfl rfl (b1 s) (cw jN rfl rfl (rfl) (λO C j u I=>by subst C;exact k.kX (E:=bJ) bF M j u I) aG))) ?_
         refine ah ?_
         refine ao rfl OI rfl (λw' _=>Ph w' c d) ?_
         refine ay ?_
         exact gn (Sub.cons (aX (λx=>some (Value.bool x)) (by simp[uB,pR,r,s])) (dZ rfl rfl rfl)) (λ_ h=>h)
        ·refine bG [0,1,2,3,4,5,6,7,8,9,10,11,12,13,14,15,16,17,18,19,20,21,22,23,24,25,26,27,28] 0 [[]] ?_
         refine b5 ?_
         refine aL rfl (λB k=>(cA rfl rfl b (bD (q:=pre.length+1) dv rfl rfl rfl a7 aa aa aG))) ?_
         refine aq ?_
         refine aL rfl (λB k=>(cA rfl rfl b (ba bM rfl rfl (λO C=>by subst C;exact k.kX (E:=bJ) bF M 2 _ rfl) aG))) ?_
         refine b5 ?_
         exact gn (Sub.cons (aX (λx=>some (Value.bool x)) (by simp[uB,pR,s])) (dZ rfl rfl rfl)) (λ_ h=>h)
      ·refine bG [0,1,2,3,4,5,6,7,8,9,10,11,12,13,14,15,16,17,18,19,20,21,22,23,24,25,26,27,28] 0 [[]] ?_
       refine Ah ?_
       exact gn (Sub.cons (aX (λx=>some (Value.bool x)) (by cases rest <;> simp[uB,pR,r])) (dZ rfl rfl rfl)) (λ_ h=>h)
     ·refine aq ?_
      refine b2 rfl (λD=>?_) (λD=>?_)
      ·cases rest with
       | nil=>cases D
       | cons d rest=>
        refine bH ?_
        have y:de (c::d::rest)=c::d::de rest:=by
         simp only[de,ag K]
         rw[ax (show pR c d=true from D)]
        refine bg (pre++[c,d],rest) ⟨by rw[t,y];simp,by simp at a ⊢;omega⟩ (by simp;omega) (Sub.cons a7 (Sub.cons (by simp[look];omega) Sub.nil)) (λw' m=>?_)
        have:=m.rem bv.head
        simpa using this
      ·refine ay ?_
       refine ao rfl E7 rfl (λw' _=>FI w' c.at_) ?_
       refine bD dv rfl rfl rfl a7 a7 aa ?_
       refine mu (o:=pre.length*8) jN rfl rfl eo (by simp[Addr.add_lit]) rfl (bJ.iW (gO c.at_)) (by rw[bJ.dH];show pre.length*8+8≤_*8;simp;omega) ?_
       refine aJ ?_
       have y:de (c::rest)=gO c.at_::de rest:=by
        cases rest with
        | nil=>
         have s:c.half≠3:=λh=>by
          have:=f.2
          rw[tU] at this
          rcases this with z | z
          ·exact a8 z h
          ·exact a8 z (N.2 rfl)
         simp[de,K,s]
        | cons d l=>
         simp only[uB] at D
         simp[de,K,D]
       refine bg (pre++[gO c.at_],rest) ⟨by rw[t,y];simp,by simp at a ⊢;omega⟩ av (Sub.cons a7 (Sub.cons (by simp[look]) Sub.nil)) (λw' m=>?_)
       have:=m.rem bv.head
       have P:=bJ.iY (L:=pre++c::rest) (i:=pre.length) (gO c.at_) av
       have W: (pre++c::rest).set pre.length (gO c.at_)=(pre++[gO c.at_])++rest:=by simp
       rw[W] at P
       rw[←P]
       exact this
  ·refine ay ?_
   intro Zg F
   have X:rest=[]:=iR aa
   subst X
   have Y:de row=pre++[]:=t
   exact⟨rfl,F.ext,by rw[Y];exact F.has Has.head⟩
theorem FJ (w:World) (v:Value):Calls prog 276 [v].toArray w (λe w'=>e= .returned (.tuple #[])∧Ext [] w w'):=by
 refine aW func276 ntmps276 ?_;refine ar ?_;intro b a;exact⟨rfl,a.ext⟩
theorem oz (w:World) (F:Nat→Prop) (A:Option Addr) (n c:Nat) (row:List bh) (k:Rd bJ w F A n c row) (q:n≤1000000):
 Calls prog 275 [.slice A n c,.func (.func 276) #[] #[]].toArray w (ia bJ w (de row)):=by
 have a:=k.len
 refine aW func275 ntmps275 ?_;refine jM 282 8 ?_;refine aK ?_;refine ol (E:=bJ) dv rfl rfl rfl (λ_=>by exact cz) (λw' b=>k.ext b.ext av) (by simp only[maxLen];omega) aa (λf m=>?_);refine al ?_;refine qI (v:= .tuple #[]) (c':=own 282 8 f (0+n) (bJ.all (de row))) rfl wQ rfl cz a7 (λw' b=>(w_ w' f row (by have:=b.has Has.head;rw[dG] at this;rw[a];exact this) aa).mono ?_) ?_;rintro e o ⟨i,j,d⟩;exact⟨i,j,by rw[dG];rw[a] at d;exact d⟩;refine al ?_;refine gK rfl rfl EP rfl (λw' _=>FJ w' _) ?_;refine ay ?_;refine qI (v:= .tuple #[]) (c':=own 282 8 f (0+n) (bJ.all (de row))) rfl wQ rfl cz a7 (λw' b=>(w_ w' f (de row) (by have:=b.has Has.head;rw[dG] at this;rw[hG,a];exact this) (by rw[hG];omega)).mono ?_) ?_;rintro e o ⟨i,j,d⟩;exact⟨i,j,by rw[dG];rw[hG,a,FH] at d;exact d⟩;refine aR ?_;intro r l;exact ia.fX l.ext (l.has Has.head) (by rw[hG,a,dG]) (λg p=>by
  rcases m g p with h | h
  simp[Value.ownBlock] at h
  exact h.1)
theorem FK (w:World) (F:Nat→Prop) (A:Option Addr) (n c:Nat) (row:List bh) (j:Rd bJ w F A n c row) (l:n≤1000000):
 Calls prog 196 [.slice A n c].toArray w (ia bJ w (de row)):=by
 refine aW func196 ntmps196 ?_;refine aK ?_;refine Ll (λg v a=>ia bJ g (de row) (.returned v) a) rfl pF rfl (λw' m=>(oz w' F A n c row (j.ext m.ext av) l).mono ?_) ?_;rintro e a ⟨b,d,c1,rfl,h,f⟩;exact⟨_,rfl,h,b,d,c1,rfl,h,f⟩;rintro g v a o s ⟨b,d,c1,p,_,f⟩ q _;cases p
 refine ay ?_;intro t i;exact⟨b,d,c1,rfl,q.dU i.ext,(f.dA i.ext).dC (λk r=>fp o.ext.size r)⟩
theorem FL (w:World) (F:Nat→Prop) (A:Option Addr) (n c:Nat) (row:List bh) (h:Rd bJ w F A n c row) (t:n≤1000000):
 Calls prog 272 [.slice A n c].toArray w (λe w'=>e= .returned (.int .i64 (k8 row:Int))∧Ext [] w w'):=by
 have l:=h.len
 refine aW func272 ntmps272 ?_;refine b5 ?_;refine b3 (ι:=Nat) (λk=>[(0,.slice A n c),(3,.int .i64 (k:Int))]) (λ_=>af w [] []) (λk=>k≤n∧k8 row=k8 (row.take k)) (λk=>k) ?_ ?_;exact λw a=>⟨n,⟨cd _,by rw[←l,qA]⟩,(iA rfl rfl),a⟩
 rintro k ⟨u,b⟩;refine al ?_;refine aV 8 rfl (λd=>?_) (λd=>?_);have m:=aY d
 obtain⟨x,i⟩ : ∃x,row[k - 1]? = some x:=⟨row[k - 1]'aa,bE _⟩;obtain⟨bX,v,_,o⟩:=h.at_ i;have j:k8 (row.take k)=if x.r=0 then k8 (row.take (k - 1)) else k:=by
  have e:row.take k=row.take (k - 1)++[x]:=by
   rw[show k=k - 1+1 by omega,fU,i];rfl
  rw[e,Pg,dn,iv aa,show k - 1+1=k by omega]
 refine aC ?_;refine bD (q:=k - 1) dv rfl rfl rfl bz aa aa ?_;refine ah ?_;refine ba jt rfl rfl (λw' f=>f.ct (o 0 _ rfl) av) ?_;refine ay ?_;refine aj (λg=>?_) (λg=>?_);refine aJ ?_;refine bg (k - 1) ⟨aa,by rw[b,j,ax g]⟩ aa (Sub.cons a7 (Sub.cons (by simp[look];omega) Sub.nil)) (λw' f=>f);refine bH ?_;intro p a;exact⟨by rw[b,j,ag g],a.ext⟩;have m:=a8 d
 refine jc ?_;intro p a;have s:k=0:=by omega
 subst s;exact⟨by rw[b];rfl,a.ext⟩
theorem uC (w:World) (cols:Int):Calls prog 265 [.int .i64 cols].toArray w (λe w'=>e= .returned (.bool (decide (2≤cols) && decide (cols≤1000)))∧Ext [] w w'):=by
 refine aW func265 ntmps265 ?_;refine aR ?_;refine aV 5 rfl (λh=>?_) (λh=>?_);have ai:=aY h
 refine aR ?_;intro b a;exact⟨by simp[ai],a.ext⟩;have ai:=a8 h
 refine aK ?_;intro b a;exact⟨by simp[ai],a.ext⟩
abbrev bQ:=List bh × Bool
structure ep (w:World) (F:Nat→Prop) (A:Option Addr) (n c:Nat) (rows:List bQ):Prop where
 hs: ∃eN:List pQ,Rd k7 w F A n c eN∧eN.map (·.cont)=rows.map (·.2)∧ ∀(k:Nat) (r:pQ) (row:bQ),eN[k]? = some r→rows[k]? = some row→Rd bJ w F r.A r.n r.c row.1
theorem ep.len {w:World} {F:Nat→Prop} {A:Option Addr} {n c:Nat} {rows:List bQ} (h:ep w F A n c rows):rows.length=n:=by
 obtain⟨eN,a,b,_⟩:=h.hs;have:=aX List.length b
 simp only[cN] at this
 rw[←this,a.len]
theorem ep.ext {w w':World} {F:Nat→Prop} {S:List Nat} {A:Option Addr} {n c:Nat} {rows:List bQ} (h:ep w F A n c rows) (a:Ext S w w') (b: ∀k,F k→k∉S):ep w' F A n c rows:=by
 obtain⟨eN,d,e,f⟩:=h.hs;exact⟨eN,d.ext a b,e,λk r row g i=>(f k r row g i).ext a b⟩
theorem ep.dC {w:World} {F F':Nat→Prop} {A:Option Addr} {n c:Nat} {rows:List bQ} (h:ep w F A n c rows) (a: ∀k,F k→F' k):ep w F' A n c rows:=by
 obtain⟨eN,b,d,e⟩:=h.hs;exact⟨eN,b.dC a,d,λk r row f g=>(e k r row f g).dC a⟩
theorem ep.at_ {w:World} {F:Nat→Prop} {A:Option Addr} {n c:Nat} {rows:List bQ} (h:ep w F A n c rows) {k:Nat} {row:bQ} (a:rows[k]? = some row):
 ∃bX e m d,A=some bX∧F bX.block∧(∀j u,([.slice e m d,.bool row.2]:List Value)[j]? = some u→w.cell? ((bX.add (k*2)).add j)=some u)∧Rd bJ w F e m d row.1:=by
 obtain⟨eN,i,f,o⟩:=h.hs;have v:=(cU.1 a).1
 have x:eN.length=rows.length:=by simpa using aX List.length f
 obtain⟨r,b⟩ : ∃r,eN[k]? = some r:=⟨eN[k]'aa,bE _⟩;have p:r.cont=row.2:=by
  have:=aX (λl=>l[k]?) f
  simp only[eJ,b,a,oc,dz] at this
  exact this
 obtain⟨bX,q,s,t⟩:=i.at_ b;exact⟨bX,r.A,r.n,r.c,q,s,λj u g=>t j u (by rw[←p] at g;exact g),o k r row b a⟩
def cellsOf (rows:List bQ):List bh:=(rows.flatMap (·.1)).filter (λc=>decide (c.half≠3))
def qY (rows:List bQ):List bh:=Aj (de (cellsOf rows))
theorem FM (rows:List bQ) (r:bQ):cellsOf (rows++[r])=cellsOf rows++r.1.filter (λc=>decide (c.half≠3)):=by simp[cellsOf]
theorem kr {α:Type} {l:List α} {k:Nat} {a:α} (h:l[k]? = some a):l.take (k+1)=l.take k++[a]:=by rw[fU,h];rfl
theorem Ak {α:Type} (p:α→Bool) (l:List α) (a:α): (l++[a]).filter p=if p a=true then l.filter p++[a] else l.filter p:=by
 by_cases h:p a=true <;> simp[h]
def d4 (rows:List bQ):Nat:=(rows.map (·.1.length)).sum
theorem xa (rows:List bQ): (cellsOf rows).length≤d4 rows:=by
 unfold cellsOf d4;refine fp (List.length_filter_le _ _) ?_;rw[List.length_flatMap];exact cd _
theorem Al (rows:List bQ) (k:Nat):d4 (rows.take k)≤d4 rows:=by
 have h:=iT k rows
 have:d4 rows=d4 (rows.take k)+d4 (rows.drop k):=by
  conv=>lhs;rw[←h]
  simp only[d4,gb,List.sum_append]
 omega
theorem Pi (w:World) (F:Nat→Prop) (A:Option Addr) (n c:Nat) (rows:List bQ) (G:ep w F A n c rows) (Zk:n≤1000000) (O:d4 rows≤1000000):
 Calls prog 268 [.slice A n c].toArray w (ia bJ w (qY rows)):=by
 have Zl:=G.len
 refine aW func268 ntmps268 ?_;refine jM 282 8 ?_;refine eG ?_;refine b3 (ι:=Nat × Value × List bh) (λi=>[(3,i.2.1),(8,.slice A n c),(9,.int .i64 (n:Int)),(10,.int .i64 (i.1 :Int))]) (λi=>af w [] [own 282 8 i.2.1 i.2.2.length (bJ.all i.2.2)]) (λi=>i.1≤n∧i.2.2=cellsOf (rows.take i.1)∧ ∀g,i.2.1.ownBlock=some g→w.heap.size≤g) (λi=>n - i.1) ?_ ?_;exact λw b=>⟨(0,.slice none 0 0,[]),⟨bN _,rfl,by simp[Value.ownBlock]⟩,(cu rfl rfl rfl rfl),b⟩
 rintro⟨k,v,L⟩ ⟨z,e,H⟩;dsimp only at z e H ⊢
 refine al ?_;refine aj (λP=>?_) (λP=>?_);obtain⟨row,B⟩ : ∃row,rows[k]? = some row:=⟨rows[k]'aa,bE _⟩;obtain⟨bX,Q,m,d,Zm,_,R,I⟩:=G.at_ B;have S:=I.len
 have Zn:L.length+m≤1000000:=by
  have T:=Al rows (k+1)
  rw[kr B] at T
  have Zo:d4 (rows.take k++[row])=d4 (rows.take k)+m:=by simp[d4,S]
  have r:=xa (rows.take k)
  rw[e];omega
 refine al ?_;refine bD dI rfl rfl rfl bz a7 aa ?_;refine cw gL rfl rfl (rfl) (λw' a j u f=>a.ct (R j u f) av) ?_;refine aq ?_;intro Zp Zq Zr;refine bw ?_;refine b3 (ι:=Nat × Value × List bh) (λi=>[(3,i.2.1),(8,.slice A n c),(9,.int .i64 (n:Int)),(10,.int .i64 (k:Int)),(15,.slice Q m d),(16,.int .i64 (m:Int)),(17,.int .i64 (i.1 :Int))]) (λi=>af w [] [own 282 8 i.2.1 i.2.2.length (bJ.all i.2.2)]) (λi=>i.1≤m∧i.2.2=L++(row.1.take i.1).filter (λc=>decide (c.half≠3))∧ ∀g,i.2.1.ownBlock=some g→w.heap.size≤g) (λi=>m - i.1) ?_ ?_;exact λw b=>⟨(0,v,L),⟨bN _,by simp,H⟩,(hE rfl rfl rfl rfl rfl rfl rfl),b.rem bv.head⟩
 rintro⟨j,J,s⟩ ⟨f,o,t⟩;dsimp only at f o t ⊢
 have K:s.length≤L.length+j:=by
  rw[o,b0];have:=List.length_filter_le (λc:bh=>decide (c.half≠3)) (row.1.take j)
  rw[dn] at this
  omega
 refine al ?_;refine aj (λU=>?_) (λU=>?_);obtain⟨x,C⟩ : ∃x,row.1[j]? = some x:=⟨row.1[j]'aa,bE _⟩;obtain⟨Zs,Zt,_,V⟩:=I.at_ C;refine al ?_;refine bD dv rfl rfl rfl bz a7 aa ?_;refine cw jN rfl rfl (rfl) (λw' a j u f=>a.ct (V j u f) av) ?_;refine aq ?_;intro Zu Zv Zw;refine aR ?_;refine aj (λr=>?_) (λr=>?_);refine aS ?_;intro Zx Zy Zz;refine gm dv rfl rfl rfl bi (λ_=>by exact eo) rfl (Ag rfl rfl rfl rfl rfl rfl rfl rfl) (by simp only[maxLen];omega) aa (λW X=>?_);refine aK ?_;refine bg (j+1,W,s++[x]) ⟨aa,by rw[kr C,Ak,ax (b1 r),o,e0],λg Y=>by
  rcases X g Y with h | h
  exact t g h;exact h.1⟩ aa (hE rfl rfl rfl rfl rfl rfl rfl) (λw' a=>?_)
 rw[b0,bA.hc];exact a.rem bv.head;refine aC ?_;refine bg (j+1,J,s) ⟨aa,by rw[kr C,Ak,ag (λh=>r (aY h)),o],t⟩ aa (hE rfl rfl rfl rfl rfl rfl rfl) (λw' a=>a.rem bv.head);refine aR ?_;have Z:j=m:=by omega
 subst Z;refine bg (k+1,J,s) ⟨aa,by rw[kr B,FM,o,e,eu (l:=row.1) aa],t⟩ aa (cu rfl rfl rfl rfl) (λw' a=>a);have Za:k=n:=by omega
 subst Za;rw[eu aa] at e
 have K:L.length≤1000000:=by rw[e];exact fp (xa rows) O
 refine aK ?_;refine DI (λZA D=>?_);obtain⟨Zb,c1,rfl,Zc⟩:=Rd.fX (E:=bJ) (D.has Has.head) rfl;refine zh rfl zK rfl (λw' a=>FK w' _ Zb L.length c1 L (Zc.ext a.ext av) K) ?_;intro ZB ZC Zd Ze Zf M Zg ZD y;have Zh:=y.len
 rw[hG] at Zh
 refine aC ?_;refine ao rfl EN rfl (λw' a=>FL w' _ Zd Ze Zf _ (y.ext a.ext av) aa) ?_;have Zi:=Pf (de L)
 rw[hG] at Zi
 have ZE:=y.cap
 refine fh 0 (k8 (de L)) dv rfl rfl (.inr ⟨rfl,rfl⟩) (.inl ⟨_,_,rfl,rfl,rfl⟩) aa aa ?_;refine ay ?_;intro ZF b;have Zj:=y.cut (p:=0) (q:=k8 (de L)) aa aa
 refine⟨_,_,_,rfl,(D.ext.dU M.ext).dU (Zg.dU b.ext),?_⟩;have N:=(Zj.dA b.ext).dC (F':=λk=>w.heap.size≤k) (λk z=>fp (fp D.ext.size M.ext.size) z)
 rw[n1] at N
 subst e;exact N
def nn (c:bh):bh:=if c.half=3 then gO c.at_ else c
def uD (l:List bh):List bh:=de (l.map nn)
theorem Pj (l:List bh): (uD l).length=l.length:=by rw[uD,hG,cN]
theorem Pk (w:World) (F:Nat→Prop) (A:Option Addr) (n c:Nat) (l:List bh) (p:Rd bJ w F A n c l) (t:n≤1000000):
 Calls prog 348 [.slice A n c].toArray w (ia bJ w (uD l)):=by
 have q:=p.len
 refine aW func348 ntmps348 ?_
 refine jM 282 8 ?_
 refine aK ?_
 refine ol (E:=bJ) dv rfl rfl rfl (λ_=>by exact cz) (λw' a=>p.ext a.ext av) (by simp only[maxLen];omega) aa (λy Q=>?_)
 refine ay ?_
 refine hv (v:=y) Has.head (λd c0 z R S T B=>?_)
 subst z
 rw[dG] at *
 refine aC ?_
 refine b3 (ι:=List bh × List bh) (λi=>[(3,.slice d n c0),(8,.slice d n c0),(9,.int .i64 (n:Int)),(10,.int .i64 (i.1.length:Int))]) (λi=>af w [] [own 282 8 (.slice d n c0) n (bJ.all (i.1.map nn++i.2))]) (λi=>l=i.1++i.2) (λi=>i.2.length) ?_ ?_
 ·exact λw e=>⟨([],l),rfl,(cu rfl rfl rfl rfl),e⟩
 ·rintro⟨pre,rest⟩ b
  dsimp only at b ⊢
  have C:pre.length+rest.length=n:=by rw[←q,b,b0]
  refine al ?_
  refine aj (λD=>?_) (λD=>?_)
  ·cases rest with
   | nil=>simp at C;omega
   | cons x rest=>
   obtain⟨g,rfl⟩:=B aa
   have f: (pre.map nn++x::rest)[pre.length]? = some x:=by simp[kS]
   refine aC ?_
   refine bD dv rfl rfl rfl a7 a7 aa ?_
   refine cw jN rfl rfl (rfl) (λw' a j u G=>a.kX (E:=bJ) Has.head f j u G) ?_
   refine aq ?_
   intro U V W
   refine bo ?_
   refine aj (λh=>?_) (λh=>?_)
   ·refine al ?_
    refine bD dv rfl rfl rfl a7 a7 aa ?_
    refine mu (o:=pre.length*8) jN rfl rfl eo (by simp[Addr.add_lit]) rfl (bJ.iW (gO x.at_)) (by rw[bJ.dH];show pre.length*8+8≤_*8;simp;omega) ?_
    refine aC ?_
    refine bg (pre++[x],rest) (by simp[b]) av (Sub.cons a7 (Sub.cons a7 (Sub.cons a7 (Sub.cons (by simp[look]) Sub.nil)))) (λw' a=>?_)
    have r:=bJ.iY (L:=pre.map nn++x::rest) (i:=pre.length) (gO x.at_) av
    have H: (pre.map nn++x::rest).set pre.length (gO x.at_)=(pre++[x]).map nn++rest:=by simp[nn,h]
    rw[H] at r
    have:=a.rem bv.head
    dsimp only
    rw[←r]
    exact this
   ·refine aC ?_
    refine bg (pre++[x],rest) (by simp[b]) av (Sub.cons a7 (Sub.cons a7 (Sub.cons a7 (Sub.cons (by simp[look]) Sub.nil)))) (λw' a=>?_)
    have:=a.rem bv.head
    simpa [nn,h] using this
  ·have I:rest=[]:=iR aa
   subst I
   rw[fJ] at b
   subst b
   refine aK ?_
   refine DI (λJ m=>?_)
   have K:J.ownsRow 0 282 8 (.slice d n c0) n (bJ.all (l.map nn)):=by
    have:=m.has Has.head
    rw[fJ] at this
    exact this
   obtain⟨X,c1,M,N⟩:=Rd.fX (E:=bJ) K (by rw[cN,q])
   cases M
   refine zh rfl zK rfl (λw' a=>FK w' _ d n c0 _ (N.ext a.ext av) t) ?_
   intro Y Z Za Zb Zc s O Zd P
   refine ay ?_
   intro Ze e
   exact⟨_,_,_,rfl,(m.ext.dU s.ext).dU (O.dU e.ext),(P.dA e.ext).dC (λk f=>fp (fp m.ext.size s.ext.size) f)⟩
def eH (l:List bh) (cols:Nat):Nat:=
 if l.length<cols then l.length else if (l[cols - 1]?.map (·.half))=some 1 then cols - 1 else cols
theorem Am (w:World) (F:Nat→Prop) (A:Option Addr) (n c:Nat) (l:List bh) (cols:Nat) (f:Rd bJ w F A n c l) (m:n≤4000000) (o:1≤cols) (p:cols≤1000):
 Calls prog 349 [.slice A n c,.int .i64 (cols:Int)].toArray w (λe w'=>e= .returned (.int .i64 (eH l cols:Int))∧Ext [] w w'):=by
 have h:=f.len
 refine aW func349 ntmps349 ?_;refine b5 ?_;refine aj (λi=>?_) (λi=>?_);refine aR ?_;intro g a;exact⟨by rw[eH,ax aa,h],a.ext⟩;obtain⟨x,b⟩ : ∃x,l[cols - 1]? = some x:=⟨l[cols - 1]'aa,bE _⟩;obtain⟨bX,r,_,j⟩:=f.at_ b;refine aK ?_;refine bD (q:=cols - 1) dv rfl rfl rfl bz aa aa ?_;refine aq ?_;refine ba bM rfl rfl (λw' k=>k.ct (j 2 _ rfl) av) ?_;refine ah ?_;refine aj (λd=>?_) (λd=>?_);refine aR ?_;intro g a;refine⟨?_,a.ext⟩;rw[eH,ag aa,ax (by rw[b];simp[d]),show ((cols - 1 :Nat):Int)=(cols:Int) - 1 by omega];refine aR ?_;intro g a;refine⟨?_,a.ext⟩;rw[eH,ag aa,ag (by rw[b];simpa using d)]
def qZ:bh:={ gP with half:=3 }
def An (left:List bh) (cols:Nat):List bh:=left.drop (eH left cols)
theorem Ao (l:List bh) (cols:Nat):eH l cols≤l.length∧eH l cols≤cols:=by
 unfold eH;split
 omega
 split <;> omega
theorem Pl (l:List bh) (cols:Nat) (b:2≤cols) (a:l≠[]):1≤eH l cols:=by
 have:0<l.length:=tX.2 a
 unfold eH;split
 omega
 split <;> omega
theorem Pm (l:List bh) (cols:Nat): (An l cols).length=l.length - eH l cols:=by simp[An]
theorem Pn {α:Type} (E:bA α) (l:List α) (k:Nat): (E.all l).drop (k*E.sz)=E.all (l.drop k):=by
 induction k generalizing l with
 | zero=>simp
 | succ k b=>
  cases l with
  | nil=>simp[bA.all]
  | cons a l=>
   have:E.all (a::l)=E.enc a++E.all l:=by simp[bA.all]
   rw[this,iU,Nat.one_mul,Nat.add_comm,←mj,List.drop_left' (E.len a),List.drop_succ_cons];exact b l
theorem Po {α:Type} (E:bA α) (a:α) (m:Nat):e9 (E.enc a) m=E.all (List.replicate m a):=by
 induction m with
 | zero=>simp[e9,bA.all]
 | succ m b=>
  have: ∀(l:List α),E.all (a::l)=E.enc a++E.all l:=λl=>by simp[bA.all]
  rw[mn,this,e9,b]
theorem FN (m:Nat):e9 [.int .i32 0,.string ByteArray.empty,.int .i64 0,.int .i64 0,.int .i64 0,.int .i64 0,.int .i64 0,.int .i64 0] m=bJ.all (List.replicate m gP):=Po bJ gP m
end Go.Proofs.YtkeokgcdnfjaaaaGreatDoor.Mq
namespace Go.Proofs.YtkeokgcdnfjaaaaGreatDoor.Mq
open Go Go.RowKit Go.Proofs
theorem ep.xb {w:World} {F:Nat→Prop} {A:Option Addr} {n c:Nat} {rows:List bQ} (h:ep w F A n c rows):n≤c∧c≤maxLen:=by
 obtain⟨eN,a,_⟩:=h.hs;exact⟨a.cap,a.max⟩
def uE (rows:List bQ):Nat→Nat
 | 0=>0
 | i+1=>if (rows[i+1]?.map (·.2))=some true then uE rows i else i+1
def no (out:List (Int × Int)) (i:Int) (c:Bool):List (Int × Int):=
 match out.getLast? with
 | some p=>if c then out.dropLast++[(p.1,i+1)] else out++[(i,i+1)]
 | none=>[(i,i+1)]
def np (rows:List bQ) (k:Nat):Bool:=(rows[k]?.map (·.2)).getD false
def ks (rows:List bQ):Nat→List (Int × Int)
 | 0=>[]
 | k+1=>no (ks rows k) k (np rows k)
theorem Pp (L:List (Int × Int)) (i:Int) (c:Bool): (no L i c).length≤L.length+1:=by
 unfold no;split
 split <;> simp
 simp
theorem Ap (rows:List bQ) (k:Nat): (ks rows k).length≤k:=by
 induction k with
 | zero=>simp[ks]
 | succ k a=>
  have:=Pp (ks rows k) k (np rows k)
  rw[ks];omega
def xc (rows:List bQ) (a e:Nat):Prop:= ∀k,a≤k→k<e→uE rows k=a
def uF (rows:List bQ):Nat→List (Int × Int)→Nat→Prop
 | a,[],b=>a=b
 | a,p::L,b=> ∃e:Nat,p=((a:Int),(e:Int))∧a<e∧xc rows a e∧np rows e=false∧uF rows e L b
theorem FO {rows:List bQ} {s e:Nat} (b:s<e) (c:xc rows s e) (d:np rows e=false): ∀(M:List (Int × Int)) (a:Nat),uF rows a M s→uF rows a (M++[((s:Int),(e:Int))]) e
 | [],a,h=>by
  have h:a=s:=h
  subst h;exact⟨e,rfl,b,c,d,rfl⟩
 | p::M,a,h=>by
  obtain⟨f,g,i,j,k,l⟩:=h;exact⟨f,g,i,j,k,FO b c d M f l⟩
theorem FP {rows:List bQ}: ∀(M:List (Int × Int)) (a b:Nat),uF rows a M b→a≤b
 | [],a,b,h=>Nat.le_of_eq h
 | p::M,a,b,h=>by
  obtain⟨c,_,e,_,_,d⟩:=h;have:=FP M c b d
  omega
def sw (rows:List bQ) (n:Nat) (a:Nat) (L:List (Int × Int)):Prop:=(L=[]∧a=n)∨ ∃(M:List (Int × Int)) (s:Nat),L=M++[((s:Int),(n:Int))]∧s<n∧xc rows s n∧uF rows a M s
theorem FQ {rows:List bQ} (k:Nat):uE rows k=if k=0 then 0 else if np rows k=true then uE rows (k - 1) else k:=by
 cases k with
 | zero=>rfl
 | succ k=>
  rw[uE,np];cases h:rows[k+1]? <;> simp
theorem Aq (rows:List bQ) (k:Nat):sw rows k 0 (ks rows k):=by
 induction k with
 | zero=>exact .inl ⟨rfl,rfl⟩
 | succ k g=>
  rw[ks];rcases g with ⟨b,c⟩ | ⟨M,s,b,c,d,e⟩
  subst c;rw[b];refine .inr ⟨[],0,rfl,aa,λj b c=>?_,rfl⟩;have:j=0:=by omega
  subst this;rfl
  rw[b];simp only[no,List.getLast?_append,List.getLast?_singleton,Option.some_or,List.dropLast_concat];by_cases a:np rows k=true
  rw[ax a];refine .inr ⟨M,s,rfl,aa,λj f h=>?_,e⟩;by_cases i:j=k
  subst i;rw[FQ,ag aa,ax a];exact d _ aa aa;exact d j f aa;rw[ag a];refine .inr ⟨M++[((s:Int),(k:Int))],k,rfl,aa,λj f h=>?_,FO c d (by simpa using a) M 0 e⟩;have:j=k:=by omega
  subst this;rw[FQ,ag aa,ag a]
theorem Ar {rows:List bQ} {n a:Nat} {p:Int × Int} {L:List (Int × Int)} (h:sw rows n a (p::L)): ∃e:Nat,p=((a:Int),(e:Int))∧a<e∧e≤n∧xc rows a e∧(e<n→np rows e=false)∧sw rows n e L:=by
 rcases h with ⟨h,_⟩ | ⟨M,s,b,d,f,c⟩
 cases h
 cases M with
 | nil=>
  have c:a=s:=c
  subst c;simp only[qw,rJ] at b
  obtain⟨rfl,rfl⟩:=b;exact⟨n,rfl,d,cd _,f,λh=>absurd h aa,.inl ⟨rfl,rfl⟩⟩
 | cons q M=>
  simp only[mi,rJ] at b
  obtain⟨rfl,rfl⟩:=b;obtain⟨e,i,j,k,l,g⟩:=c;have:=FP M e s g
  exact⟨e,i,j,aa,k,λ_=>l,.inr ⟨M,s,rfl,d,f,g⟩⟩
end Go.Proofs.YtkeokgcdnfjaaaaGreatDoor.Mq
