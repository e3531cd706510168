/- part 14 of the proof -/
import Derived.Test.YtlgnfdodnhokjaaGreatDoorQ13
namespace Go.Proofs.YtlgnfdodnhokjaaGreatDoor.Mq
open Go Go.RowKit Go.Proofs Tryz
theorem Chunk.dJ {w w':World} (c:Chunk) (h:c.pred w) (a:Ext [] w w'):c.pred w':=c.loc w w' (λk b=>a.block k (c.low w h k b) av) h
abbrev jn (L:List bh) (w:World):=fi (λv:Value=>v) (λv=>dN v L) (λ_=>True) w
theorem rk (w:World) (F:Nat→Prop) (A:Option Addr) (n c:Nat) (row:List bh) (m:Rd bK w F A n c row) (D:n≤1000000) (f:List bh→List bh) (d:FuncId) (cap:List Value) (o:ad prog d) (p: ∀L,(f L).length=L.length)
 (q: ∀w' v,Ext [] w w'→(∀k∈v.ownBlock.toList,w.heap.size≤k)→(dN v (dg row)).pred w'→Calls prog d ([]++[v]++cap).toArray w' (dt v (f (dg row)) w')):
 Calls prog 279 [.slice A n c,.func (.func d) [].toArray cap.toArray].toArray w (jn (cT f row) w):=by
 have G:=m.len
 have r:=hP row
 have H:=p (dg row)
 refine aV func279 ntmps279 ?_;refine jZ 215 8 ?_;refine aK ?_;refine oH (E:=bK) dv rfl rfl rfl (λ_=>by exact cA) (λw' b=>m.ext b.ext av) (by simp only[maxLen];omega) aa (λa s=>?_);refine aS ?_;have t: ∀k∈a.ownBlock.toList,w.heap.size≤k:=λg u=>by
  rcases s g (by simpa using u) with h | h
  simp[Value.ownBlock] at h
  exact h.1
 have y:0+n=row.length:=by omega
 rw[y];refine cH (H':=af w [] [dN a row]) ?_ (Sub.refl _) (λx z=>z);refine aq ?_;refine qX (v:= .tuple #[]) (c:=dN a row) (c':=dN a (dg row)) rfl xa rfl cA rfl (λw' b=>(xv w' a row (b.has Has.head) aa).mono ?_) ?_;rintro e B ⟨i,j,l⟩;exact⟨i,j,A0 l rfl r⟩;refine al ?_;refine QJ (first:=[]) (cap:=cap) (v:= .tuple #[]) (c:=dN a (dg row)) (c':=dN a (f (dg row))) rfl rfl o rfl cA rfl (uE _ _ _ _ _) (λw' b=>q w' a b.ext t (b.has Has.head)) ?_;refine ay ?_;refine qX (v:= .tuple #[]) (c:=dN a (f (dg row))) (c':=dN a (cT f row)) rfl xa rfl cA rfl (λw' b=>(xv w' a (f (dg row)) (b.has Has.head) aa).mono ?_) ?_;rintro e B ⟨i,j,l⟩;exact⟨i,j,A0 l rfl (hP _)⟩;refine aQ ?_;intro I C;exact fi.of a a1 C
theorem QS (w:World) (F:Nat→Prop) (A:Option Addr) (n c:Nat) (row:List bh) (h:Rd bK w F A n c row) (i:n≤1000000) (x r:Int) (a:hO):
 Calls prog 324 [.slice A n c,.int .i64 x,.int .i32 r,.agg a.enc.toArray].toArray w (jn (cT (λL=>jK L x r a) row) w):=by
 have m:=h.len
 refine aV func324 ntmps324 ?_;refine ah ?_;intro o p q;refine ar ?_;intro s t u;refine ar ?_;intro y z B;refine aC ?_;refine gp (ι:=Value) (c':=λv=>dN v (cT (λL=>jK L x r a) row)) rfl pR rfl (λj b=>rk j F A n c row (h.ext b.ext av) i (λL=>jK L x r a) _ [ptr _,ptr _,ptr _] Pl (λL=>rj L x r a) (λw' v d f ai=>QL w' _ _ _ x r a (Chunk.dJ _ (b.has bJ) d) (Chunk.dJ _ (b.has cr) d) (Chunk.dJ _ (b.has aT) d) v _ ai (by rw[hP];omega) (λk g=>⟨λe=>by have:=f k g;have:=b.lt (k:=k) (by subst e;simp[aB,aD]);omega,λe=>by have:=f k g;have:=b.lt (k:=k) (by subst e;simp[aB,aD]);omega,λe=>by have:=f k g;have:=b.lt (k:=k) (by subst e;simp[aB,aD]);omega⟩))) (λC _=>?_);refine ay ?_;intro D l;exact fi.of _ a1 (l.ax ae)
theorem QT (w:World) (F:Nat→Prop) (A:Option Addr) (n c:Nat) (row:List bh) (g:Rd bK w F A n c row) (h:n≤1000000) (x y an aM:Int):
 Calls prog 321 [.slice A n c,.int .i64 x,.int .i64 y,.agg [.int .i64 an,.int .i64 aM].toArray].toArray w (jn (cT (λL=>kD L x y an aM) row) w):=by
 have l:=g.len
 refine aV func321 ntmps321 ?_;refine ah ?_;intro m o p;refine ar ?_;intro q r s;refine ar ?_;intro t u z;refine aC ?_;refine gp (ι:=Value) (c':=λv=>dN v (cT (λL=>kD L x y an aM) row)) rfl pR rfl (λi a=>rk i F A n c row (g.ext a.ext av) h (λL=>kD L x y an aM) _ [ptr _,ptr _,ptr _] Pk (λL=>xI L _ _ _ _) (λw' v b d ai=>QN w' _ _ _ x y an aM (Chunk.dJ _ (a.has cr) b) (Chunk.dJ _ (a.has bJ) b) (Chunk.dJ _ (a.has aT) b) v _ ai (by rw[hP];omega) (λk f=>⟨λe=>by have:=d k f;have:=a.lt (k:=k) (by subst e;simp[aB,aD]);omega,λe=>by have:=d k f;have:=a.lt (k:=k) (by subst e;simp[aB,aD]);omega,λe=>by have:=d k f;have:=a.lt (k:=k) (by subst e;simp[aB,aD]);omega⟩))) (λB _=>?_);refine ay ?_;intro C j;exact fi.of _ a1 (j.ax ae)
theorem QU (w:World) (F:Nat→Prop) (A:Option Addr) (n c:Nat) (row:List bh) (g:Rd bK w F A n c row) (h:n≤1000000) (x y an aM:Int):
 Calls prog 378 [.slice A n c,.int .i64 x,.int .i64 y,.agg [.int .i64 an,.int .i64 aM].toArray].toArray w (jn (cT (λL=>insertC L x y an aM) row) w):=by
 have l:=g.len
 refine aV func378 ntmps378 ?_;refine ah ?_;intro m o p;refine ar ?_;intro q r s;refine ar ?_;intro t u z;refine aC ?_;refine gp (ι:=Value) (c':=λv=>dN v (cT (λL=>insertC L x y an aM) row)) rfl pR rfl (λi a=>rk i F A n c row (g.ext a.ext av) h (λL=>insertC L x y an aM) _ [ptr _,ptr _,ptr _] PB (λL=>s0 L _ _ _ _) (λw' v b d ai=>QO w' _ _ _ x y an aM (Chunk.dJ _ (a.has cr) b) (Chunk.dJ _ (a.has bJ) b) (Chunk.dJ _ (a.has aT) b) v _ ai (by rw[hP];omega) (λk f=>⟨λe=>by have:=d k f;have:=a.lt (k:=k) (by subst e;simp[aB,aD]);omega,λe=>by have:=d k f;have:=a.lt (k:=k) (by subst e;simp[aB,aD]);omega,λe=>by have:=d k f;have:=a.lt (k:=k) (by subst e;simp[aB,aD]);omega⟩))) (λB _=>?_);refine ay ?_;intro C j;exact fi.of _ a1 (j.ax ae)
theorem QV (w:World) (F:Nat→Prop) (A:Option Addr) (n c:Nat) (row:List bh) (g:Rd bK w F A n c row) (h:n≤1000000) (x y an aM:Int):
 Calls prog 393 [.slice A n c,.int .i64 x,.int .i64 y,.agg [.int .i64 an,.int .i64 aM].toArray].toArray w (jn (cT (λL=>j5 L x y an aM) row) w):=by
 have l:=g.len
 refine aV func393 ntmps393 ?_;refine ah ?_;intro m o p;refine ar ?_;intro q r s;refine ar ?_;intro t u z;refine aC ?_;refine gp (ι:=Value) (c':=λv=>dN v (cT (λL=>j5 L x y an aM) row)) rfl pR rfl (λi a=>rk i F A n c row (g.ext a.ext av) h (λL=>j5 L x y an aM) _ [ptr _,ptr _,ptr _] PC (λL=>s3 L _ _ _ _) (λw' v b d ai=>QP w' _ _ _ x y an aM (Chunk.dJ _ (a.has cr) b) (Chunk.dJ _ (a.has bJ) b) (Chunk.dJ _ (a.has aT) b) v _ ai (by rw[hP];omega) (λk f=>⟨λe=>by have:=d k f;have:=a.lt (k:=k) (by subst e;simp[aB,aD]);omega,λe=>by have:=d k f;have:=a.lt (k:=k) (by subst e;simp[aB,aD]);omega,λe=>by have:=d k f;have:=a.lt (k:=k) (by subst e;simp[aB,aD]);omega⟩))) (λB _=>?_);refine ay ?_;intro C j;exact fi.of _ a1 (j.ax ae)
theorem xJ {P:bh→Prop} (f: ∀c,P c→P (gY c.at_)): ∀{L:List bh},(∀c∈L,P c)→ ∀c∈dg L,P c:=by
 intro L;fun_induction dg L with
 | case1=>intro h;exact h
 | case2 c=>
  intro h d ak;rw[eb] at ak
  subst ak;split
  exact h c av;exact f c (h c av)
 | case3 c d l g a=>
  intro h e he;rcases e1.1 he with rfl | he
  exact h _ av;exact a (λx b=>h x (by simp[e1.1 b])) e he
 | case4 c d l g ai a=>
  intro h e he;rcases e1.1 he with rfl | he
  exact h _ av;rcases e1.1 he with rfl | he
  exact h _ av;exact a (λx b=>h x (by simp[b])) e he
 | case5 c d l g ai a=>
  intro h e he;rcases e1.1 he with rfl | he
  exact f c (h c av);exact a (λx b=>h x (by simp[e1.1 b])) e he
theorem QW (w:World) (F:Nat→Prop) (A:Option Addr) (n c:Nat) (row:List bh) (b:Rd bK w F A n c row) (h:n≤1000000) (i: ∀c∈row,c.more.length≤1000000) (x r:Int):
 Calls prog 374 [.slice A n c,.int .i64 x,.int .i32 r].toArray w (jn (cT (λL=>eG L x r) row) w):=by
 have m:=b.len
 refine aV func374 ntmps374 ?_;refine ah ?_;intro o p q;refine ar ?_;intro s t u;refine aC ?_;refine gp (ι:=Value) (c':=λv=>dN v (cT (λL=>eG L x r) row)) rfl pR rfl (λj a=>rk j F A n c row (b.ext a.ext av) h (λL=>eG L x r) _ [ptr _,ptr _] Pz (λL=>fL L x r) (λw' v d f ai=>QR w' _ _ x r (Chunk.dJ _ (a.has bJ) d) (Chunk.dJ _ (a.has aT) d) v _ ai (by rw[hP];omega) (Gb row) (xJ (λ_ _=>bP _) i) (λk g=>⟨λe=>by have:=f k g;have:=a.lt (k:=k) (by subst e;simp[aB,aD]);omega,λe=>by have:=f k g;have:=a.lt (k:=k) (by subst e;simp[aB,aD]);omega⟩))) (λy _=>?_);refine ay ?_;intro z l;exact fi.of _ a1 (l.ax ae)
theorem QX (w:World) (F:Nat→Prop) (A:Option Addr) (n c:Nat) (row:List bh) (a:Rd bK w F A n c row) (b:n≤1000000):
 Calls prog 418 [.slice A n c].toArray w (jn (cT mR row) w):=by
 have g:=a.len
 refine aV func418 ntmps418 ?_;refine aK ?_;refine gp (ι:=Value) (vs:=[.slice A n c,.func (.func 439) [].toArray [].toArray]) (c':=λv=>dN v (cT mR row)) rfl pR rfl (λd e=>rk d F A n c row (a.ext e.ext av) b mR _ [] PG xH (λw' v h i ai=>QK w' v _ ai (by rw[hP];omega))) (λv4 _=>?_);refine ay ?_;intro j f;exact fi.of _ a1 (f.ax ae)
theorem QY (w:World) (F:Nat→Prop) (A:Option Addr) (n c:Nat) (row:List bh) (a:Rd bK w F A n c row) (b:n≤1000000):
 Calls prog 200 [.slice A n c].toArray w (jn (cT id row) w):=by
 have i:=a.len
 refine aV func200 ntmps200 ?_;refine aK ?_;refine gp (ι:=Value) (vs:=[.slice A n c,.func (.func 280) [].toArray [].toArray]) (c':=λv=>dN v (cT id row)) rfl pR rfl (λd f=>rk d F A n c row (a.ext f.ext av) b id _ [] Fg (λ_=>rfl) (λw' v j k ai=>(Gd w' v).mono (λe l h=>⟨h.1,h.2.mono av,Chunk.dJ _ ai h.2⟩))) (λv4 _=>?_);refine ay ?_;intro m g;exact fi.of _ a1 (g.ax ae)
section
structure b0 where
 jL:List bG
 room:Int
 cG:List bG
 cols:Int
 gi:List eh
def rl (cols:Int) (k v:Int):bG:=(List.replicate cols.toNat (j4 k v),false)
def nK (p:b0) (y:Int) (f:bG→bG):b0:=
 if 0≤y∧y<p.cG.length then { p with cG:=p.cG.modify y.toNat f } else p
def nL (p:b0) (y:Int) (f:List bh→List bh):b0:=nK p y (λr=>(f r.1,r.2))
def iN (p:b0) (y:Int) (b:Bool):b0:=nK p y (λr=>(r.1,b))
def fM (p:b0) (k a n:Int):b0:={ p with gi:=p.gi++[⟨k,a,n⟩] }
def vb (p:b0) (y x r:Int) (a:hO):b0:=nL p y (cT (λL=>jK L x r a))
def xK (p:b0) (y x r:Int):b0:=nL p y (cT (λL=>eG L x r))
def xL (p:b0) (y:Int):b0:=nL p y (cT mR)
def vc (p:b0) (y x n k v:Int):b0:=nL p y (cT (λL=>insertC L x n k v))
def A3 (p:b0) (y x n k v:Int):b0:=nL p y (cT (λL=>j5 L x n k v))
def eraseP (p:b0) (y a b k v:Int):b0:=
 if 0≤y∧y<p.cG.length then
  let q:=nL p y (cT (λL=>kD L a b k v))
  if a<p.cols∧p.cols≤b then (if a≤0 then iN (iN q (y+1) false) y false else iN q (y+1) false) else q
 else p
structure c7 (p:b0):Prop where
 cols:2≤p.cols∧p.cols≤1000
 rows:1≤p.cG.length∧p.cG.length≤1000
 wide: ∀r∈p.cG,(r.1.length:Int)=p.cols∧ ∀c∈r.1,c.more.length≤32
 nM: ∀r∈p.jL,(r.1.length:Int)=p.cols∧ ∀c∈r.1,c.more.length≤32
 room: (p.jL.length:Int)≤p.room∧p.room≤100000
def bq.abs (p:bq):b0:=⟨p.r.rows,p.r.room,b5 p.s.l,p.cols,p.bf.l⟩
def hT (p:bq) (q:b0) (w:World):Ending→World→Prop:=aP (λ_:bq=>Value.tuple #[]) (bB p) bB (λz=>z.g=p.g∧cX z.r∧z.abs=q) w
theorem af.apart {b w:World} {S:List Nat} {cs cs' l:List Chunk} (h:af b S cs w) (d:aA cs l cs') {c:Chunk} (e:Has cs' c): ∀k∈c.ch,k∉aB l:=by
 have a:=(h.perm d.perm).nodup
 rw[iI] at a
 intro k f g;exact (fW.1 a).2.2 k g k (e_.2 ⟨c,e.mem,f⟩) rfl
def setRow (p:bq) (y:Nat) (r:bS):bq:={ p with s:={ p.s with l:=p.s.l.set y r } }
theorem A4 (p:bq) {y:Nat} {g r:bS} (a:p.s.l[y]? = some g) {f:bG→bG} (c:f g.fw=r.fw): (setRow p y r).abs=nK p.abs (y:Int) f:=by
 have d:=(cK.1 a).1
 have e: (0 :Int)≤(y:Int)∧(y:Int)<p.abs.cG.length:=⟨aa,by simp[bq.abs,b5];omega⟩
 unfold nK;rw[aw e];simp only[bq.abs,setRow,b0.mk.injEq,true_and,and_true,fV];apply mz
 intro k;rw[List.getElem?_modify];simp only[b5,eD,om];by_cases b:y=k
 subst b;have h:=(cK.1 a).2
 simp[d,h,c]
 simp[b]
theorem QZ {b w:World} {S:List Nat} {cs cs':List Chunk} {p:bq} {y:Nat} {g:bS} {d:Option Addr} {c':Nat} {a:List bh} (f:p.s.l[y]? = some g) (h:af b S cs w)
 (i:aA cs [dN (.slice d a.length c') a,p.s.b9,p.an,aR (cc p.r),own 144 2 p.s.val p.s.l.length ((cl.all p.s.l).set (y*2) (.slice d a.length c')),p.bf.au] cs'):af b S (bB (setRow p y ⟨d,c',g.cont,a⟩)) w:=by
 have m:=h.ax i
 have n:=m.AS (k:=y) (c:=g.aF) (by simp[f])
 have o:=bA.pF cl (j:=0) (a':=⟨d,c',g.cont,a⟩) (v:= .slice d a.length c') f aZ rfl
 have e:bB (setRow p y ⟨d,c',g.cont,a⟩)=[p.an,aR (cc p.r),own 144 2 p.s.val p.s.l.length ((cl.all p.s.l).set (y*2) (.slice d a.length c')),aR ((p.s.l.map bS.aF).set y (dN (.slice d a.length c') a)),p.bf.au]:=by
  have q:cl.all (p.s.l.set y ⟨d,c',g.cont,a⟩)=(cl.all p.s.l).set (y*2) (.slice d a.length c'):=o.symm
  simp only[bB,setRow,bq.an,nH,de.val,de.au,de.b9,gc,q,oo]
 rw[e];exact n.ax ae
theorem GU {b w:World} {S:List Nat} {cs cs':List Chunk} {p:bq} {y:Nat} {g:bS} {v:Bool} (a:p.s.l[y]? = some g) (d:af b S cs w)
 (f:aA cs [p.an,aR (cc p.r),own 144 2 p.s.val p.s.l.length ((cl.all p.s.l).set (y*2+1) (.bool v)),p.s.b9,p.bf.au] cs'):af b S (bB (setRow p y ⟨g.A,g.c,v,g.cells⟩)) w:=by
 have h:=d.ax f
 have i:=bA.pF cl (j:=1) (a':=⟨g.A,g.c,v,g.cells⟩) (v:= .bool v) a aZ rfl
 have k:=(cK.1 a).1
 have m:=(cK.1 a).2
 have e:bB (setRow p y ⟨g.A,g.c,v,g.cells⟩)=[p.an,aR (cc p.r),own 144 2 p.s.val p.s.l.length ((cl.all p.s.l).set (y*2+1) (.bool v)),p.s.b9,p.bf.au]:=by
  have n:cl.all (p.s.l.set y ⟨g.A,g.c,v,g.cells⟩)=(cl.all p.s.l).set (y*2+1) (.bool v):=i.symm
  have o: (p.s.l.set y ⟨g.A,g.c,v,g.cells⟩).map bS.aF=p.s.l.map bS.aF:=by
   rw[oo];have:bS.aF ⟨g.A,g.c,v,g.cells⟩=(p.s.l.map bS.aF)[y]'(by simpa using k):=by
    rw[List.getElem_map,m]
   rw[this,List.set_getElem_self]
  simp only[bB,setRow,bq.an,nH,de.val,de.au,de.b9,gc,n,o]
 rw[e];exact h
section
variable {P:Program} {n:Nat} {ops:Array Oper} {Q:cq} {rest:List Oper} {l:Fr} {d:Nat} {ty:TypeId} {pos:String} {a7:Array Edge}
variable {b:World} {S:List Nat} {cs:List Chunk}
theorem Q0 {ι:Type} {ih:Operand} {args:List Operand} {db:Array TypeId} {f:FuncId} {first cap vs:List Value} {v:ι→Value} {c':ι→Chunk} {ok:ι→Prop} (ak:Nat.blt d n=true) (a:ba l ih=some (.func (.func f) first.toArray cap.toArray)) (g:ad P f) (j:cI l args=some vs)
 (k: ∀w,af b S cs w→Calls P f (first++vs++cap).toArray w (fi v c' ok w))
 (h: ∀i,ok i→az P n ops Q rest ((d,v i)::l) (af b S (c' i::cs))):
 az P n ops Q (⟨some d,.call ⟨.value ih,args.toArray,db⟩,ty,pos,a7,none⟩::rest) l (af b S cs):=by
 refine gT a ak g j λw c=>?_
 have:=k w c
 simp only[List.append_toArray];refine this.mono ?_;rintro e w' ⟨i,hi,rfl,m,ai,a,o⟩;exact⟨v i,rfl,(h i hi).at (c.add m ai a o)⟩
end
section
variable {P:Program} {n:Nat} {ops:Array Oper} {Q:cq} {rest:List Oper} {l:Fr} {d:Nat} {ty:TypeId} {pos:String} {a7:Array Edge}
variable {b:World} {S:List Nat} {cs:List Chunk}
theorem af.xM {α:Type} {E:bA α} {w:World} (h:af b S cs w) {e g m c:Nat} {L:List α} {v:Value} (d:Has cs (own e E.sz v m (E.all L))) (f:v= .slice (some ⟨g,0,none⟩) m c) {k:Nat} {a:α} (i:L[k]? = some a) (j:Nat) (u:Value) (l: (E.enc a)[j]? = some u):
 w.cell? (((⟨g,0,none⟩ :Addr).add (k*E.sz)).add j)=some u:=by
 subst f;exact h.k5 d i j u l
theorem A5 {x y:Operand} {t:Nat} {z v v0:Value} {p:Addr} {e sz m g c o:Nat} {xs:List Value} {cs':List Chunk} (a:v0= .slice (some ⟨g,0,none⟩) m c) (d:cL P t z) (f:ba l x=some (.pointer (some p))) (i:ba l y=some v) (j:bn cs (own e sz v0 m xs) (own e sz v0 m (xs.set o v)) cs') (ai:p=⟨g,o,none⟩)
 (k:v.oneCell'=true) (q:o<xs.length)
 (h:az P n ops Q rest l (af b S cs')):az P n ops Q (⟨none,.store t x y,ty,pos,a7,none⟩::rest) l (af b S cs):=by
 subst a;exact k4 d f i j ai k q h
theorem xN {x y:Operand} {t a:Nat} {z vs:List Value} {v0:Value} {p:Addr} {e sz m g c o:Nat} {xs:List Value} {cs':List Chunk} (d:v0= .slice (some ⟨g,0,none⟩) m c) (f:cD P t a z) (i:ba l x=some (.pointer (some p))) (j:ba l y=some (.agg vs.toArray)) (k:bn cs (own e sz v0 m xs) (own e sz v0 m (df xs o vs)) cs') (ai:p=⟨g,o,none⟩)
 (q:vs.length=a) (r:aI vs) (s:o+vs.length≤xs.length)
 (h:az P n ops Q rest l (af b S cs')):az P n ops Q (⟨none,.store t x y,ty,pos,a7,none⟩::rest) l (af b S cs):=by
 subst d;exact mI f i j k ai q r s h
end
theorem rm {w:World} {r:de} (h:r.au.pred w) (c:0<r.l.length): ∃g,r.A=some ⟨g,0,none⟩:=by
 rcases h.2 with ⟨_,d⟩ | ⟨g,cap,am,a,_⟩
 omega
 injection a with b e f
 exact⟨g,b⟩
theorem s6 (w:World) (p:bq) (u:a8 w (bB p)) (x:cX p.r) (G:c7 p.abs) (y:Int) (f:List bh→List bh) (j:FuncId) (cap:List Value) (H:ad prog j)
 (I: ∀w' (g:bS) F,af w (aB (bB p)) (bB p) w'→g∈p.s.l→Rd bK w' F g.A g.cells.length g.c g.cells→Calls prog j ([]++[g.val]++cap).toArray w' (jn (f g.cells) w')):
 Calls prog 319 [ptr p.g,.int .i64 y,.func (.func j) [].toArray cap.toArray].toArray w (hT p (nL p.abs y f) w):=by
 have J:=G.rows
 simp only[bq.abs,b5,cB] at J
 obtain⟨g,k⟩:=rm (r:=p.s) (u.all _ av) aa;have B:p.s.val= .slice (some ⟨g,0,none⟩) p.s.l.length p.s.c:=by rw[de.val,k]
 refine bI func319 ntmps319 u ?_;refine aS ?_;refine ao rfl sG rfl (λa b=>sX a p (b.has aT) y) ?_;refine aq ?_;refine aj (λK=>?_) (λK=>?_);obtain⟨q,rfl⟩ : ∃q:Nat,y=(q:Int):=⟨y.toNat,aa⟩;obtain⟨z,d⟩ : ∃z,p.s.l[q]? = some z:=⟨p.s.l[q]'aa,bE _⟩;have C:=da d
 refine bF [0,1,2,3,4,5,6,7,8,9,10,11,12,13] 2 [[(14,false,[15,16]),(17,true,[])]] ?_;refine bp ?_;refine aL rfl (λD m=>(bC (q:=q) dK rfl rfl rfl k aa aa aG)) ?_;refine ar ?_;refine aL rfl (λD m=>(a_ sx rfl rfl (λS n=>by subst n;exact m.xM (E:=cl) cr B d 0 _ rfl) aG)) ?_;refine aq ?_;refine Q0 (ι:=Value) (first:=[]) (cap:=cap) (c':=λv=>dN v (f z.cells)) rfl rfl H rfl (λa b=>by obtain⟨dG,c9,n,M⟩:=u7 (v:=z.val) (L:=z.cells) ((b.has gD:p.s.b9.pred a) z.aF (dH.2 ⟨z,C,rfl⟩));injection n with N _ O;subst N O;exact I a z _ b C M) (λP _=>?_);refine b3 (λ_=>True) (λ_ h=> .inr (h.rem bw.head)) (λ_ h=>a1) ?_;refine aL rfl (λD m=>(bC (q:=q) dK rfl rfl rfl k aa aa aG)) ?_;refine ah ?_;refine jd (e:=215) (sz:=8) (v:=P) aT (λdG c9 Q _ _ _ _=>?_);subst Q;refine A5 B (o:=q*2) sx rfl rfl nB (by simp[Addr.add_lit]) rfl (by rw[cl.dI];show q*2<p.s.l.length*2;omega) ?_;refine aS ?_;intro R t
 (refine aP.bQ (i:=setRow p q ⟨dG,c9,z.cont,f z.cells⟩) ⟨rfl,x,?_⟩ rfl (QZ d t ae);exact A4 p d rfl)
 refine aq ?_;intro R t;exact aP.bQ (i:=p) ⟨rfl,x,by rw[nL,nK,ag (by simp[bq.abs,b5];omega)]⟩ rfl t
theorem p8 (w:World) (p:bq) (b:a8 w (bB p)) (d:cX p.r) (h:c7 p.abs) (y:Int):
 Calls prog 322 [ptr p.g,.int .i64 y].toArray w (hT p (iN p.abs y false) w):=by
 have j:=h.rows
 simp only[bq.abs,b5,cB] at j
 obtain⟨g,e⟩:=rm (r:=p.s) (b.all _ av) aa;have k:p.s.val= .slice (some ⟨g,0,none⟩) p.s.l.length p.s.c:=by rw[de.val,e]
 refine bI func322 ntmps322 b ?_;refine aS ?_;refine ao rfl sG rfl (λm n=>sX m p (n.has aT) y) ?_;refine aq ?_;refine aj (λt=>?_) (λt=>?_);obtain⟨q,rfl⟩ : ∃q:Nat,y=(q:Int):=⟨y.toNat,aa⟩;obtain⟨z,f⟩ : ∃z,p.s.l[q]? = some z:=⟨p.s.l[q]'aa,bE _⟩;refine al ?_;refine bC (q:=q) dK rfl rfl rfl e aa aa ?_;refine ar ?_;refine A5 k (o:=q*2+1) oI rfl rfl lf (by simp[Addr.add_lit]) rfl (by rw[cl.dI];show q*2+1<p.s.l.length*2;omega) ?_;refine aq ?_;intro u a
 (refine aP.bQ (i:=setRow p q ⟨z.A,z.c,false,z.cells⟩) ⟨rfl,d,?_⟩ rfl (GU f a ae);exact A4 p f rfl)
 refine aq ?_;intro u a;exact aP.bQ (i:=p) ⟨rfl,d,by rw[iN,nK,ag (by simp[bq.abs,b5];omega)]⟩ rfl a
theorem Q1 (w:World) (p:bq) (b:a8 w (bB p)) (d:cX p.r) (h:c7 p.abs) (y:Int):
 Calls prog 376 [ptr p.g,.int .i64 y].toArray w (hT p (iN p.abs y true) w):=by
 have j:=h.rows
 simp only[bq.abs,b5,cB] at j
 obtain⟨g,e⟩:=rm (r:=p.s) (b.all _ av) aa;have k:p.s.val= .slice (some ⟨g,0,none⟩) p.s.l.length p.s.c:=by rw[de.val,e]
 refine bI func376 ntmps376 b ?_;refine aS ?_;refine ao rfl sG rfl (λm n=>sX m p (n.has aT) y) ?_;refine aq ?_;refine aj (λt=>?_) (λt=>?_);obtain⟨q,rfl⟩ : ∃q:Nat,y=(q:Int):=⟨y.toNat,aa⟩;obtain⟨z,f⟩ : ∃z,p.s.l[q]? = some z:=⟨p.s.l[q]'aa,bE _⟩;refine al ?_;refine bC (q:=q) dK rfl rfl rfl e aa aa ?_;refine ar ?_;refine A5 k (o:=q*2+1) oI rfl rfl lf (by simp[Addr.add_lit]) rfl (by rw[cl.dI];show q*2+1<p.s.l.length*2;omega) ?_;refine aq ?_;intro u a
 (refine aP.bQ (i:=setRow p q ⟨z.A,z.c,true,z.cells⟩) ⟨rfl,d,?_⟩ rfl (GU f a ae);exact A4 p f rfl)
 refine aq ?_;intro u a;exact aP.bQ (i:=p) ⟨rfl,d,by rw[iN,nK,ag (by simp[bq.abs,b5];omega)]⟩ rfl a
end
theorem oZ {p:bq} (a:c7 p.abs) {g:bS} (d:g∈p.s.l):g.cells.length≤1000000∧ ∀c∈g.cells,c.more.length≤1000000:=by
 have h:=a.wide g.fw (by simp only[bq.abs,b5];exact dH.2 ⟨g,d,rfl⟩)
 have b:=a.cols
 exact⟨by have:=h.1;simp only at this;omega,λc b=>by have:=h.2 c b;omega⟩
theorem Q2 (w:World) (d e f:Nat) (x r:Int) (a:hO) (i: (aD d [.int .i64 x] 3).pred w) (k: (aD e [.int .i32 r] 21).pred w) (l: (aD f a.enc 125).pred w) (F:Nat→Prop) (A:Option Addr) (n c:Nat) (row:List bh) (g:Rd bK w F A n c row) (s:row.length≤1000000):
 Calls prog 323 ([]++[Value.slice A n c]++[ptr d,ptr e,ptr f]).toArray w (jn (cT (λL=>jK L x r a) row) w):=by
 have t:=g.len
 refine aV func323 ntmps323 ?_;refine aK ?_;refine a_ bN rfl rfl (λh b=>b.bU i (by (simp;done)) rfl) ?_;refine a_ jC rfl rfl (λh b=>b.bU k (by (simp;done)) rfl) ?_;refine cx sw rfl rfl rfl (λh b j u m=>b.jJ (sz:=5) l (by (simp;done)) rfl j u m) ?_;refine gp (ι:=Value) (c':=λv=>dN v (cT (λL=>jK L x r a) row)) rfl OR rfl (λo p=>QS o F A n c row (g.ext p.ext av) aa x r a) (λy _=>?_);refine ay ?_;intro z q;exact fi.of _ a1 q
theorem GV (w:World) (p:bq) (e:a8 w (bB p)) (f:cX p.r) (d:c7 p.abs) (y x r:Int) (a:hO):
 Calls prog 232 [ptr p.g,.int .i64 y,.int .i64 x,.int .i32 r,.agg a.enc.toArray].toArray w (hT p (vb p.abs y x r a) w):=by
 refine bI func232 ntmps232 e ?_;refine ah ?_;intro l m n;refine ar ?_;intro o q s;refine ar ?_;intro t u v;refine al ?_;refine a6 (ι:=bq) ae rfl sH rfl (λh b=>s6 h p (b.bo ae) f d y (cT (λL=>jK L x r a)) _ [ptr _,ptr _,ptr _] OQ (λw' g F c i j=>Q2 w' _ _ _ x r a (c.dF (b.has cr) (b.apart ae cr)) (c.dF (b.has bJ) (b.apart ae bJ)) (c.dF (b.has aT) (b.apart ae aT)) F _ _ _ _ j (oZ d i).1)) (λz A=>?_);refine aq ?_;intro B k;exact aP.bQ _ bv rfl (k.ax ae)
theorem Q3 (w:World) (b d:Nat) (x r:Int) (f: (aD b [.int .i64 x] 3).pred w) (g: (aD d [.int .i32 r] 21).pred w) (F:Nat→Prop) (A:Option Addr) (n c:Nat) (row:List bh) (e:Rd bK w F A n c row) (m:row.length≤1000000) (h: ∀c∈row,c.more.length≤1000000):
 Calls prog 373 ([]++[Value.slice A n c]++[ptr b,ptr d]).toArray w (jn (cT (λL=>eG L x r) row) w):=by
 have o:=e.len
 refine aV func373 ntmps373 ?_;refine aK ?_;refine a_ bN rfl rfl (λi a=>a.bU f (by (simp;done)) rfl) ?_;refine a_ jC rfl rfl (λi a=>a.bU g (by (simp;done)) rfl) ?_;refine gp (ι:=Value) (c':=λv=>dN v (cT (λL=>eG L x r) row)) rfl Pd rfl (λj k=>QW j F A n c row (e.ext k.ext av) aa h x r) (λp _=>?_);refine ay ?_;intro q l;exact fi.of _ a1 l
theorem Q4 (w:World) (p:bq) (e:a8 w (bB p)) (f:cX p.r) (b:c7 p.abs) (y x r:Int):
 Calls prog 305 [ptr p.g,.int .i64 y,.int .i64 x,.int .i32 r].toArray w (hT p (xK p.abs y x r) w):=by
 refine bI func305 ntmps305 e ?_;refine ah ?_;intro k l m;refine ar ?_;intro n o q;refine al ?_;refine a6 (ι:=bq) ae rfl sH rfl (λh a=>s6 h p (a.bo ae) f b y (cT (λL=>eG L x r)) _ [ptr _,ptr _] Pc (λw' g F c d i=>Q3 w' _ _ x r (c.dF (a.has bJ) (a.apart ae bJ)) (c.dF (a.has aT) (a.apart ae aT)) F _ _ _ _ i (oZ b d).1 (oZ b d).2)) (λs t=>?_);refine aq ?_;intro u j;exact aP.bQ _ bv rfl (j.ax ae)
theorem Q5 (w:World) (d e cd:Nat) (x b an aM:Int) (h: (aD d [.int .i64 x] 3).pred w) (i: (aD e [.int .i64 b] 3).pred w) (k: (aD cd [.int .i64 an,.int .i64 aM] 123).pred w) (F:Nat→Prop) (A:Option Addr) (n c:Nat) (row:List bh) (f:Rd bK w F A n c row) (q:row.length≤1000000):
 Calls prog 377 ([]++[Value.slice A n c]++[ptr d,ptr e,ptr cd]).toArray w (jn (cT (λL=>insertC L x b an aM) row) w):=by
 have r:=f.len
 refine aV func377 ntmps377 ?_;refine aK ?_;refine a_ bN rfl rfl (λg a=>a.bU h (by (simp;done)) rfl) ?_;refine a_ bN rfl rfl (λg a=>a.bU i (by (simp;done)) rfl) ?_;refine cx gA rfl rfl rfl (λg a j u l=>a.jJ (sz:=2) k (by (simp;done)) rfl j u l) ?_;refine gp (ι:=Value) (c':=λv=>dN v (cT (λL=>insertC L x b an aM) row)) rfl Pf rfl (λm o=>QU m F A n c row (f.ext o.ext av) aa x b an aM) (λs _=>?_);refine ay ?_;intro t p;exact fi.of _ a1 p
theorem GW (w:World) (p:bq) (e:a8 w (bB p)) (f:cX p.r) (d:c7 p.abs) (y x b an aM:Int):
 Calls prog 307 [ptr p.g,.int .i64 y,.int .i64 x,.int .i64 b,.agg [.int .i64 an,.int .i64 aM].toArray].toArray w (hT p (vc p.abs y x b an aM) w):=by
 refine bI func307 ntmps307 e ?_;refine ah ?_;intro l m n;refine ar ?_;intro o q s;refine ar ?_;intro t u v;refine al ?_;refine a6 (ι:=bq) ae rfl sH rfl (λh a=>s6 h p (a.bo ae) f d y (cT (λL=>insertC L x b an aM)) _ [ptr _,ptr _,ptr _] Pe (λw' g F c i j=>Q5 w' _ _ _ x b an aM (c.dF (a.has cr) (a.apart ae cr)) (c.dF (a.has bJ) (a.apart ae bJ)) (c.dF (a.has aT) (a.apart ae aT)) F _ _ _ _ j (oZ d i).1)) (λz A=>?_);refine aq ?_;intro B k;exact aP.bQ _ bv rfl (k.ax ae)
theorem Q6 (w:World) (d e cd:Nat) (x b an aM:Int) (h: (aD d [.int .i64 x] 3).pred w) (i: (aD e [.int .i64 b] 3).pred w) (k: (aD cd [.int .i64 an,.int .i64 aM] 123).pred w) (F:Nat→Prop) (A:Option Addr) (n c:Nat) (row:List bh) (f:Rd bK w F A n c row) (q:row.length≤1000000):
 Calls prog 392 ([]++[Value.slice A n c]++[ptr d,ptr e,ptr cd]).toArray w (jn (cT (λL=>j5 L x b an aM) row) w):=by
 have r:=f.len
 refine aV func392 ntmps392 ?_;refine aK ?_;refine a_ bN rfl rfl (λg a=>a.bU h (by (simp;done)) rfl) ?_;refine a_ bN rfl rfl (λg a=>a.bU i (by (simp;done)) rfl) ?_;refine cx gA rfl rfl rfl (λg a j u l=>a.jJ (sz:=2) k (by (simp;done)) rfl j u l) ?_;refine gp (ι:=Value) (c':=λv=>dN v (cT (λL=>j5 L x b an aM) row)) rfl Po rfl (λm o=>QV m F A n c row (f.ext o.ext av) aa x b an aM) (λs _=>?_);refine ay ?_;intro t p;exact fi.of _ a1 p
theorem Q7 (w:World) (p:bq) (e:a8 w (bB p)) (f:cX p.r) (d:c7 p.abs) (y x b an aM:Int):
 Calls prog 336 [ptr p.g,.int .i64 y,.int .i64 x,.int .i64 b,.agg [.int .i64 an,.int .i64 aM].toArray].toArray w (hT p (A3 p.abs y x b an aM) w):=by
 refine bI func336 ntmps336 e ?_;refine ah ?_;intro l m n;refine ar ?_;intro o q s;refine ar ?_;intro t u v;refine al ?_;refine a6 (ι:=bq) ae rfl sH rfl (λh a=>s6 h p (a.bo ae) f d y (cT (λL=>j5 L x b an aM)) _ [ptr _,ptr _,ptr _] Pn (λw' g F c i j=>Q6 w' _ _ _ x b an aM (c.dF (a.has cr) (a.apart ae cr)) (c.dF (a.has bJ) (a.apart ae bJ)) (c.dF (a.has aT) (a.apart ae aT)) F _ _ _ _ j (oZ d i).1)) (λz A=>?_);refine aq ?_;intro B k;exact aP.bQ _ bv rfl (k.ax ae)
theorem Q8 (w:World) (b d cd:Nat) (x z an aM:Int) (g: (aD b [.int .i64 x] 3).pred w) (h: (aD d [.int .i64 z] 3).pred w) (i: (aD cd [.int .i64 an,.int .i64 aM] 123).pred w) (F:Nat→Prop) (A:Option Addr) (n c:Nat) (row:List bh) (e:Rd bK w F A n c row) (p:row.length≤1000000):
 Calls prog 320 ([]++[Value.slice A n c]++[ptr b,ptr d,ptr cd]).toArray w (jn (cT (λL=>kD L x z an aM) row) w):=by
 have q:=e.len
 refine aV func320 ntmps320 ?_;refine aK ?_;refine a_ bN rfl rfl (λf a=>a.bU g (by (simp;done)) rfl) ?_;refine a_ bN rfl rfl (λf a=>a.bU h (by (simp;done)) rfl) ?_;refine cx gA rfl rfl rfl (λf a j u k=>a.jJ (sz:=2) i (by (simp;done)) rfl j u k) ?_;refine gp (ι:=Value) (c':=λv=>dN v (cT (λL=>kD L x z an aM) row)) rfl OP rfl (λl m=>QT l F A n c row (e.ext m.ext av) aa x z an aM) (λr _=>?_);refine ay ?_;intro s o;exact fi.of _ a1 o
theorem Q9 (w:World) (p:bq) (b:a8 w (bB p)) (c:cX p.r) (a:c7 p.abs) (y:Int):
 Calls prog 375 [ptr p.g,.int .i64 y].toArray w (hT p (xL p.abs y) w):=by
 refine bI func375 ntmps375 b ?_;refine ah ?_;refine a6 (ι:=bq) (vs:=[ptr p.g,.int .i64 y,.func (.func 418) [].toArray [].toArray]) ae rfl sH rfl (λd e=>s6 d p (e.bo ae) c a y (cT mR) _ [] PA (λw' g F j f h=>QX w' F _ _ _ _ h (oZ a f).1)) (λk l=>?_);refine aq ?_;intro m i;exact aP.bQ _ bv rfl (i.ax ae)
theorem Q_ (m:Nat):ff [.int .i32 0,.string ByteArray.empty,.int .i64 0,.int .i64 0,.int .i64 0,.int .i64 0,.int .i64 0,.int .i64 0] m=bK.all (List.replicate m gZ):=by
 induction m with
 | zero=>rfl
 | succ m a=>
  rw[mD];show ff _ (m+1)=bK.enc gZ++bK.all (List.replicate m gZ)
  rw[←a];rfl
def lk (n:Int):Nat:=(max 0 (min n 1000)).toNat
theorem Ra (w:World) (n an aM:Int):Calls prog 295 [.int .i64 n,.agg [.int .i64 an,.int .i64 aM].toArray].toArray w (jn (List.replicate (lk n) (j4 an aM)) w):=by
 have c:max 0 (min n 1000)=(lk n:Int):=by unfold lk;omega
 obtain⟨m,h⟩ : ∃m,m=lk n:=⟨_,rfl⟩;rw[←h] at c ⊢
 have s:m≤1000:=by omega
 refine aV func295 ntmps295 ?_;refine ah ?_;intro d t u;refine aK ?_;refine sq m dv rfl rfl rfl c (by simp only[maxLen];omega) aa (λa v x=>?_);refine bx ?_;refine b2 (ι:=Nat) (λi=>[(3,ptr d),(5,.slice (some ⟨a,0,none⟩) m m),(12,.int .i64 (m:Int)),(13,.int .i64 (i:Int))]) (λi=>af w [] [oY a m m (fx (List.replicate m gZ) 0 i an aM),aD d [.int .i64 an,.int .i64 aM] 123]) (λi=>i≤m) (λi=>m - i) ?_ ?_;exact λw' b=>⟨0,bP _,(cj rfl rfl rfl rfl),by
  have e:fx (List.replicate m gZ) 0 0 an aM=List.replicate m gZ:=by simp[fx]
  rw[e];rw[Q_] at b
  exact b⟩
 intro i hi;refine al ?_;refine aj (λk=>?_) (λk=>?_);have y:i<m:=by omega
 have z: (fx (List.replicate m gZ) 0 i an aM).length=m:=by rw[va (by simp;omega),hj]
 have l:fx (List.replicate m gZ) 0 (i+1) an aM=(fx (List.replicate m gZ) 0 i an aM).set i (j4 an aM):=by
  unfold fx;apply mz
  intro j;rw[om];simp only[List.take_zero,lO,dE,List.drop_replicate,List.getElem?_append,b6,hj,r8];by_cases f:j<i
  simp[f,show ¬i=j by omega,show j<i+1 by omega]
  by_cases p:j=i
  subst p;simp;omega
  simp only[f,show ¬i=j by omega,show ¬j<i+1 by omega,if_false];by_cases A:j<m
  rw[aw aa,aw aa];rw[ag aa,ag aa]
 refine b7 ?_;refine ao rfl Fs rfl (λr B=>GS r an aM) ?_;refine bC (q:=i) dv rfl rfl rfl rfl aa aa ?_;refine mI (o:=i*8) j0 rfl rfl cA (by rw[Addr.add_lit,dE]) rfl (bK.jc _) (by rw[bK.dI];show i*8+8≤(fx (List.replicate m gZ) 0 i an aM).length*8;omega) ?_;refine aC ?_;refine bi (i+1) aa aa (cj rfl rfl rfl rfl) (λw' b=>?_);rw[l];show af w [] [own 215 8 (.slice (some ⟨a,0,none⟩) m m) m (bK.all ((fx (List.replicate m gZ) 0 i an aM).set i (j4 an aM))),_] w'
 rw[←s4 (j4 an aM) (by omega:i<(fx (List.replicate m gZ) 0 i an aM).length)];exact b;refine bH ?_;intro C g;have:i=m:=by omega
 subst this;have e:fx (List.replicate i gZ) 0 i an aM=List.replicate i (j4 an aM):=by simp[fx]
 rw[e] at g
 exact fi.of (Value.slice (some ⟨a,0,none⟩) i i) a1 (by simp only[dN,hj];exact g.ax ae)
theorem jn.au {L:List bh} {w w':World} {e:Ending} (h:jn L w e w'):fi (λi:Option Addr × Nat=>Value.slice i.1 L.length i.2) (λi=>dN (.slice i.1 L.length i.2) L) (λ_=>True) w e w':=by
 obtain⟨v,_,rfl,b,a,d,f⟩:=h;obtain⟨A,c,rfl⟩:=wJ (show w'.ownsRow 0 215 8 v L.length (bK.all L) from a);exact⟨(A,c),a1,rfl,b,a,d,f⟩
theorem A6 (w:World) (p:bq) (ai:p.an.pred w) (an aM:Int):Calls prog 207 [ptr p.g,.agg [.int .i64 an,.int .i64 aM].toArray].toArray w
 (fi (λg:bS=> .agg g.enc.toArray) bS.aF (λg=>g.fw=(List.replicate (lk p.cols) (j4 an aM),false)) w):=by
 refine aV func207 ntmps207 ?_;refine ah ?_;intro f i j;refine ar ?_;intro k l m;refine ah ?_;refine bF [0,1,2,3,4] 2 [[(5,false,[6]),(7,true,[])]] ?_;refine ah ?_;refine aL rfl (λn b=>(a_ bN rfl rfl (λo c=>by subst c;exact b.bU ai (by (simp;done)) rfl) aG)) ?_;refine ah ?_;refine gp rfl OA rfl (λd q=>(Ra d p.cols an aM).mono (λ_ _ h=>h.au)) (λa _=>?_);refine b3 (λ_=>True) (λ_ h=> .inr (h.rem bw.head)) (λ_ h=>a1) ?_;refine aQ ?_;intro r e;exact fi.of (⟨a.1,a.2,false,List.replicate (lk p.cols) (j4 an aM)⟩ :bS) rfl (e.ax ae)
theorem p9 (w:World) (p:bq) (b:a8 w (bB p)) (c:cX p.r) (o:p.bf.l.length≤1152921504606) (k a n:Int):
 Calls prog 195 [ptr p.g,.int .i64 k,.int .i64 a,.int .i64 n].toArray w (hT p (fM p.abs k a n) w):=by
 refine bI func195 ntmps195 b ?_;refine bp ?_;intro q s t;refine gx (news:=j3.enc ⟨k,a,n⟩) zE rfl rfl rfl bj (λ_=>by exact jk) rfl (j3.jc _) (by simp only[maxLen];omega) aa (λd u=>?_);refine jd (e:=180) (sz:=3) (v:=d) hM (λdG c9 f _ _ _ _=>?_);subst f;refine ay ?_;intro x h;refine aP.bQ (i:={ p with bf:=⟨dG,c9,p.bf.l++[⟨k,a,n⟩]⟩ }) ⟨rfl,c,rfl⟩ rfl ?_;have j: (p.bf.l++[(⟨k,a,n⟩ :eh)]).length=p.bf.l.length+1:=by simp
 have m:j3.all (p.bf.l++[(⟨k,a,n⟩ :eh)])=j3.all p.bf.l++j3.enc ⟨k,a,n⟩:=bA.hn j3 _ _
 refine af.ax h (cs':=[]) ?_;simp only[bB,bq.an,nH,lY.val,lY.au,j,m];exact aA.cons bj ae
section
theorem bn.Rb {cs cs':List Chunk} {c c':Chunk} (h:bn cs c c' cs'):Has cs' c':=by
 induction h with
 | head=>exact Has.head
 | tail _ a=>exact Has.tail a
section
variable {P:Program} {n:Nat} {ops:Array Oper} {Q:cq} {rest:List Oper} {l:Fr} {d:Nat} {ty:TypeId} {pos:String} {a7:Array Edge}
variable {b:World} {S:List Nat} {cs:List Chunk}
theorem rn {α:Type} {E:bA α} {x y:Operand} {t e g:Nat} {z:List Value} {v:Value} {m:Nat} {xs:List Value} {A:Option Addr} {k c:Nat} {src:List α} {F:Nat→Prop} {cs':Value→List Chunk} (N:Nat) (j:m+k=N) (o:c6 P t e E.sz g z) (ak:Nat.blt d n=true)
 (p:ba l x=some v) (q:ba l y=some (.slice A k c)) (i: ∀a,bn cs (own e E.sz v m xs) (own e E.sz a N (xs++E.all src)) (cs' a))
 (r: ∀w,af b S cs w→Rd E w F A k c src) (s:m+k≤maxLen) (u: (m+k)*g≤140737488355328)
 (h: ∀f c',az P n ops Q rest ((d,.slice f N c')::l) (af b S (cs' (.slice f N c')))):
 az P n ops Q (⟨some d,.call ⟨.builtin .append,#[x,y],#[t,t]⟩,ty,pos,a7,none⟩::rest) l (af b S cs):=by
 subst j;exact oH o ak p q i r s u (λa _=>jd (i a).Rb (λf c' B _ _ _ _=>by subst B;exact h f c'))
end
abbrev s7 (L:bG) (w:World):=fi (λg:bS=>Value.agg g.enc.toArray) bS.aF (λg=>g.fw=L) w
theorem GX (w:World) (F:Nat→Prop) (A:Option Addr) (n c:Nat) (L:List bh) (a:Bool) (d:Rd bK w F A n c L) (k:n≤1000000):Calls prog 97 [.agg [.slice A n c,.bool a].toArray].toArray w (s7 (L,a) w):=by
 have e:=d.len
 refine aV func97 ntmps97 ?_;refine ah ?_;intro l o p;refine ar ?_;intro q r s;refine ah ?_;refine jZ 215 8 ?_;refine eF [0,1,3,4] 2 [[(2,false,[5]),(6,true,[])]] (_) mixed ab (λ_ b=>b.drew) (λ_ h=>h.rem bw.head) ?_;refine al ?_;refine rn (E:=bK) (m:=0) (xs:=[]) L.length aa dv rfl rfl rfl (λ_=>by exact cA) (λw' f=>d.ext f.ext av) (by simp only[maxLen];omega) aa (λg i=>?_);refine b3 (λ_=>True) (λ_ h=> .inr (h.rem bw.head)) (λ_ h=>a1) ?_;refine aQ ?_;intro t b;have j:n=L.length:=e.symm
 subst j;exact fi.of (⟨g,i,a,L⟩ :bS) rfl (b.ax ae)
theorem Rc (w:World) (F:Nat→Prop) (A:Option Addr) (n c:Nat) (L:List bh) (a:Bool) (d:Rd bK w F A n c L) (k:n≤1000000):Calls prog 58 [.agg [.slice A n c,.bool a].toArray].toArray w (s7 (L,a) w):=by
 have e:=d.len
 refine aV func58 ntmps58 ?_;refine ah ?_;intro l o p;refine ar ?_;intro q r s;refine ah ?_;refine jZ 215 8 ?_;refine eF [0,1,3,4] 2 [[(2,false,[5]),(6,true,[])]] (_) mixed ab (λ_ b=>b.drew) (λ_ h=>h.rem bw.head) ?_;refine al ?_;refine rn (E:=bK) (m:=0) (xs:=[]) L.length aa dv rfl rfl rfl (λ_=>by exact cA) (λw' f=>d.ext f.ext av) (by simp only[maxLen];omega) aa (λg i=>?_);refine b3 (λ_=>True) (λ_ h=> .inr (h.rem bw.head)) (λ_ h=>a1) ?_;refine aQ ?_;intro t b;have j:n=L.length:=e.symm
 subst j;exact fi.of (⟨g,i,a,L⟩ :bS) rfl (b.ax ae)
theorem p_ {r:dj} (h:cX r) {i:Int} (a:0≤i) (hi:i<r.s.l.length):0≤eB r i∧eB r i<r.s.l.length:=by
 have b:=h.first
 unfold eB;split <;> omega
def qa (r:dj) (i:Nat):bG:=((r.s.l[(eB r i).toNat]?).map bS.fw).getD ([],false)
theorem qb (r:dj) (i:Nat):r.rows[i]? = if i<r.n.toNat then some (qa r i) else none:=by
 unfold dj.rows qa;rw[eD];by_cases h:i<r.n.toNat
 rw[aw h,r7 h];rfl
 rw[ag h,kq (by simpa using h)];rfl
theorem ll (r:dj):r.rows.length=r.n.toNat:=by simp[dj.rows]
def kE (r:dj):dj:={ r with s:={ r.s with l:=r.s.l.set r.first.toNat jm },first:=eB r 1,n:=r.n - 1,gone:=(r.gone+1)%18446744073709551616 }
theorem Re {r:dj} (h:cX r) (a:1≤r.n):cX (kE r):=by
 have b:=h.n;have c:=h.first;have d:=h.gone
 have e:=p_ h (i:=1) aa
 refine⟨by simpa [kE] using h.len,h.room,?_,?_,?_⟩;simp only[kE,gc];omega
 simp only[kE,gc];unfold eB;split <;> omega
 simp only[kE];omega
theorem Rf {r:dj} (h:cX r) (c:1≤r.n): (kE r).rows=r.rows.tail:=by
 have d:=h.n;have f:=h.first
 apply mz
 intro i;rw[List.getElem?_tail,qb,qb];by_cases hi:i+1<r.n.toNat
 ·rw[aw hi,aw (by simp only[kE];omega)]
  have e:eB (kE r) i=eB r ((i+1 :Nat):Int):=by
   simp only[eB,kE,gc];repeat' split
   all_goals omega
  have a:=p_ h (i:=((i+1 :Nat):Int)) aa aa
  have b:r.first.toNat≠(eB r ((i+1 :Nat):Int)).toNat:=by
   unfold eB at a ⊢
   split at a <;> split <;> omega
  unfold qa;rw[e];simp only[kE];rw[jA b]
 ·rw[ag hi,ag (by simp only[kE];omega)]
def kF (r:dj) (g:bS):dj:={ r with s:={ r.s with l:=r.s.l.set (eB r r.n).toNat g },n:=r.n+1 }
theorem Rg {r:dj} (h:cX r) (c:r.n<r.s.l.length) (g:bS):cX (kF r g):=by
 have d:=h.n;have a:=h.first;have b:=h.gone
 exact⟨by simpa [kF] using h.len,h.room,by simp only[kF,gc];omega,by simpa [kF] using a,b⟩
theorem Rh {r:dj} (h:cX r) (c:r.n<r.s.l.length) (g:bS): (kF r g).rows=r.rows++[g.fw]:=by
 have k:=h.n;have m:=h.first
 have b:=p_ h (i:=r.n) aa c
 apply mz
 intro i;rw[List.getElem?_append,qb,ll];have e: ∀j:Int,eB (kF r g) j=eB r j:=λj=>by simp[eB,kF]
 by_cases hi:i<r.n.toNat
 rw[aw hi,aw (by simp only[kF];omega),qb,aw hi];have d: (eB r r.n).toNat≠(eB r (i:Int)).toNat:=by
  have a:=p_ h (i:=(i:Int)) aa aa
  unfold eB at b a ⊢
  split at b <;> split at a <;> omega
 unfold qa;rw[e];simp only[kF];rw[jA d];rw[ag hi];by_cases a:i=r.n.toNat
 subst a;rw[aw (by simp only[kF];omega),nh];unfold qa;rw[e];have f: ((r.n.toNat:Nat):Int)=r.n:=by omega
 rw[f];simp only[kF];rw[List.getElem?_set_self aa];rfl
 rw[ag (by simp only[kF];omega),kq (by simp;omega)]
end
end Go.Proofs.YtlgnfdodnhokjaaGreatDoor.Mq
