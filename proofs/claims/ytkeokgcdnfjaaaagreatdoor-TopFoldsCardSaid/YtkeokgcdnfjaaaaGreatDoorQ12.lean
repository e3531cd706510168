/- part 12 of the proof -/
import Derived.Test.YtkeokgcdnfjaaaaGreatDoorQ11
namespace Go.Proofs.YtkeokgcdnfjaaaaGreatDoor.Mq
open Go Go.RowKit Go.Proofs Tryz
def nr:bA (Int × Int):=⟨λp=>[.int .i32 p.1,.int .i32 p.2],2,λ_=>rfl,λ_=>aI.cons rfl (aI.cons rfl aI.nil)⟩
def uK:List (Int × Int):=[(768,879),(1155,1161),(1425,1469),(1552,1562),(1611,1631),(2304,2306),(2364,2364),(2369,2376),(3633,3633),(3636,3642),(6832,6911),(7616,7679),(8203,8207),(8400,8447),(8288,8292),(65024,65039),(65056,65071),(65279,65279),(917760,917999)]
def uL:List (Int × Int):=[(4352,4447),(8986,8987),(9001,9002),(9193,9196),(9725,9726),(9748,9749),(11904,12350),(12353,13311),(13312,19903),(19968,40959),(40960,42191),(43360,43391),(44032,55203),(63744,64255),(65072,65135),(65280,65376),(65504,65510),(127744,128591),(128640,128767),(129280,129535),(131072,196605),(196608,262141)]
def sE (r:Int) (p:Int × Int):Bool:=decide (p.1≤r) && decide (r≤p.2)
def lM (L:List (Int × Int)) (r:Int):Bool:=L.any (sE r)
def ns (r:Int):Bool:=decide (r<32) || (decide (127≤r) && decide (r<160)) || (decide (55296≤r) && decide (r<57344)) || decide (1114111<r)
def dw (r:Int):Int:=if ns r=true then -1 else if r<768 then 1 else if lM uK r=true then 0 else if lM uL r=true then 2 else 1
theorem Az (r:Int):dw r= -1∨dw r=0∨dw r=1∨dw r=2:=by
 unfold dw;repeat' split
 all_goals simp
def xg (L:List (Int × Int)) (a:World) (v:Value) (b:World):Prop:= ∃A c,v= .slice A L.length c∧Rd nr b (λk=>a.heap.size≤k) A L.length c L
theorem PH (w:World):Calls prog 369 [].toArray w (ng (xg uK w) w):=by
 refine aW func369 ntmps369 ?_;refine qX ?_;intro d e f;refine ay ?_;intro g a;have b:=Rd.hf (E:=nr) (L:=uK) a Has.head rfl a1
 exact⟨_,rfl,a.ext,_,_,rfl,b.dC (λk c=>by rw[c];assumption)⟩
theorem PI (w:World):Calls prog 370 [].toArray w (ng (xg uL w) w):=by
 refine aW func370 ntmps370 ?_;refine w8 ?_;intro d e f;refine ay ?_;intro g a;have b:=Rd.hf (E:=nr) (L:=uL) a Has.head rfl a1
 exact⟨_,rfl,a.ext,_,_,rfl,b.dC (λk c=>by rw[c];assumption)⟩
theorem AA (w:World) (r:Int):Calls prog 367 [.int .i32 r].toArray w (Pure (.bool (ns r)) w):=by
 refine aW func367 ntmps367 ?_;refine aR ?_;refine aV 5 rfl (λc=>?_) (λc=>?_);have i:=aY c
 refine jc ?_;intro b a;exact⟨by simp only[ns,Ending.returned.injEq,Value.bool.injEq];(simp;omega),a.ext⟩;have i:=a8 c
 refine al ?_;refine aV 8 rfl (λaH=>?_) (λaH=>?_);have j:=aY aH
 refine aK ?_;refine aV 13 rfl (λd=>?_) (λd=>?_);have k:=aY d
 refine dB ?_;intro b a;exact⟨by simp only[ns,Ending.returned.injEq,Value.bool.injEq];(simp;omega),a.ext⟩;have k:=a8 d
 refine al ?_;refine aV 16 rfl (λe=>?_) (λe=>?_);have l:=aY e
 refine aK ?_;refine aV 21 rfl (λf=>?_) (λf=>?_);have m:=aY f
 refine aK ?_;intro b a;exact⟨by simp only[ns,Ending.returned.injEq,Value.bool.injEq];(simp;omega),a.ext⟩;have m:=a8 f
 refine aR ?_;intro b a;exact⟨by simp only[ns,Ending.returned.injEq,Value.bool.injEq];(simp;omega),a.ext⟩;have l:=a8 e
 refine dB ?_;intro b a;exact⟨by simp only[ns,Ending.returned.injEq,Value.bool.injEq];(simp;omega),a.ext⟩;have j:=a8 aH
 refine bw ?_;refine aV 16 rfl (λg=>?_) (λg=>?_);have n:=aY g
 refine aK ?_;refine aV 21 rfl (λh=>?_) (λh=>?_);have o:=aY h
 refine aK ?_;intro b a;exact⟨by simp only[ns,Ending.returned.injEq,Value.bool.injEq];(simp;omega),a.ext⟩;have o:=a8 h
 refine aR ?_;intro b a;exact⟨by simp only[ns,Ending.returned.injEq,Value.bool.injEq];(simp;omega),a.ext⟩;have n:=a8 g
 refine dB ?_;intro b a;exact⟨by simp only[ns,Ending.returned.injEq,Value.bool.injEq];(simp;omega),a.ext⟩
theorem PJ (w:World) (p:Int × Int) (g:Nat) (r:Int) (d: (aD g [.int .i32 r] 21).pred w):Calls prog 414 ([]++[Value.agg (nr.enc p).toArray]++[ptr g]).toArray w (Pure (.bool (sE r p)) w):=by
 refine aW func414 ntmps414 ?_;refine ah ?_;intro i j k;refine ay ?_;refine dq (q:=0) underlying426 DV rfl rfl rfl a7 aa ?_;refine aq ?_;refine ba jt rfl rfl (λe a=>a.bV d av rfl) ?_;refine ar ?_;refine aV 8 rfl (λb=>?_) (λb=>?_);have f:=aY b
 refine aq ?_;refine ba jt rfl rfl (λe a=>a.bV d av rfl) ?_;refine aq ?_;refine dq (q:=1) underlying426 DV rfl rfl rfl a7 aa ?_;refine aR ?_;intro h c;exact⟨by simp only[sE,Ending.returned.injEq,Value.bool.injEq];(simp;omega),c.ext⟩;have f:=a8 b
 refine aR ?_;intro h c;exact⟨by simp only[sE,Ending.returned.injEq,Value.bool.injEq];(simp;omega),c.ext⟩
theorem PK (w:World) (F:Nat→Prop) (A:Option Addr) (n c:Nat) (L:List (Int × Int)) (f:Rd nr w F A n c L) (B:n≤100) (g:Nat) (r:Int) (h: (aD g [.int .i32 r] 21).pred w):
 Calls prog 436 [.slice A n c,.func (.func 414) [].toArray [ptr g].toArray].toArray w (ng (λv _=> ∃k:Int,v= .int .i64 k∧decide (0≤k)=lM L r) w):=by
 have C:=f.len
 refine aW func436 ntmps436 ?_;refine b5 ?_;refine b3 (ι:=Nat) (λi=>[(0,.slice A n c),(1,.func (.func 414) [].toArray [ptr g].toArray),(7,.int .i64 (n:Int)),(8,.int .i64 (i:Int))]) (λ_=>af w [] []) (λi=>i≤n∧lM (L.take i) r=false) (λi=>n - i) ?_ ?_;exact λw' a=>⟨0,⟨bN _,by simp[lM]⟩,(cu rfl rfl rfl rfl),a⟩
 rintro i ⟨hi,d⟩;refine al ?_;refine aj (λl=>?_) (λl=>?_);obtain⟨p,ai⟩ : ∃p,L[i]? = some p:=⟨L[i]'aa,bE _⟩;obtain⟨D,E,_,m⟩:=f.at_ ai;have o:lM (L.take (i+1)) r=sE r p:=by
  rw[fU,ai,lM,List.any_append];rw[lM] at d
  rw[d];simp
 refine cE ?_;refine bD (q:=i) LV rfl rfl rfl bz aa aa ?_;refine cw LW rfl rfl (rfl) (λw' a j u s=>a.ct (m j u s) av) ?_;refine gK (first:=[]) (cap:=[ptr g]) rfl rfl OK rfl (λt x=>PJ t p g r (x.dD h av)) ?_;refine ar ?_;refine b2 rfl (λb=>?_) (λb=>?_);refine bH ?_;intro y e;refine⟨_,rfl,e.ext,_,rfl,?_⟩;have z:lM L r=true:=List.any_eq_true.2 ⟨p,c8 ai,b⟩
 rw[z];simp
 refine aC ?_;have b:sE r p=false:=by simpa using b
 exact bg (i+1) ⟨aa,by rw[o];exact b⟩ aa bO (λw' a=>a);refine bw ?_;intro y e;refine⟨_,rfl,e.ext,_,rfl,?_⟩;have:L.take i=L:=eu aa
 rw[this] at d
 rw[d];rfl
theorem PL (w:World) (F:Nat→Prop) (A:Option Addr) (n c:Nat) (L:List (Int × Int)) (b:Rd nr w F A n c L) (d:n≤100) (g:Nat) (r:Int) (e: (aD g [.int .i32 r] 21).pred w):
 Calls prog 413 [.slice A n c,.func (.func 414) [].toArray [ptr g].toArray].toArray w (Pure (.bool (lM L r)) w):=by
 refine aW func413 ntmps413 ?_;refine aJ ?_;refine mx (R:=λ_ v _=> ∃k:Int,v= .int .i64 k∧decide (0≤k)=lM L r) rfl OR rfl (λw' a=>PK w' F A n c L (b.ext a.ext av) d g r (a.dD e av)) (λm o v f h p q i=>?_);obtain⟨k,rfl,j⟩:=i;refine al ?_;intro s l;exact⟨by rw[←j],f.ext.dU (h.dU l.ext)⟩
theorem F3 (w:World) (F:Nat→Prop) (A:Option Addr) (n c:Nat) (L:List (Int × Int)) (b:Rd nr w F A n c L) (d:n≤100) (r:Int):
 Calls prog 368 [.slice A n c,.int .i32 r].toArray w (Pure (.bool (lM L r)) w):=by
 refine aW func368 ntmps368 ?_;refine ah ?_;intro f g h;refine aC ?_;refine ao rfl OJ rfl (λw' a=>PL w' F A n c L (b.ext a.ext av) d _ r (a.has Has.head)) ?_;refine ay ?_;intro i e;exact⟨rfl,e.ext⟩
theorem AB (w:World) (r:Int):Calls prog 300 [.int .i32 r].toArray w (Pure (.int .i64 (dw r)) w):=by
 refine aW func300 ntmps300 ?_;refine aR ?_;refine ao rfl Oi rfl (λl A=>AA l _) ?_;refine ah ?_;refine b2 rfl (λb=>?_) (λb=>?_);refine aJ ?_;intro d a;exact⟨by rw[dw,ax b],a.ext⟩;refine aC ?_;refine aj (λc=>?_) (λc=>?_);refine aJ ?_;intro d a;exact⟨by rw[dw,ag (by simp[b]),ax c],a.ext⟩;refine ar ?_;refine mx (R:=λf=>xg uK f) rfl Oj rfl (λw' _=>PH w') (λB m v n o C D g=>?_);obtain⟨p,c1,rfl,q⟩:=g;have j:Ext [] w m:=n.ext.dU o
 refine aq ?_;refine ao rfl E1 rfl (λw' h=>F3 w' _ p _ c1 uK (q.ext h.ext (by simp[aB])) a1 r) ?_;refine ah ?_;refine b2 rfl (λe=>?_) (λe=>?_);refine aJ ?_;intro d a;exact⟨by rw[dw,ag (by simp[b]),ag c,ax e],j.dU a.ext⟩;refine ar ?_;refine mx (R:=λf=>xg uL f) rfl Ok rfl (λw' _=>PI w') (λE s v t u F G g=>?_);obtain⟨x,y,rfl,z⟩:=g;have k:Ext [] w s:=(j.dU t.ext).dU u
 refine aq ?_;refine ao rfl E1 rfl (λw' h=>F3 w' _ x _ y uL (z.ext h.ext (by simp[aB])) a1 r) ?_;refine ah ?_;refine b2 rfl (λi=>?_) (λi=>?_);refine aJ ?_;intro d a;exact⟨by rw[dw,ag (by simp[b]),ag c,ag (by simp[e]),ax i],k.dU a.ext⟩;refine aR ?_;intro d a;exact⟨by rw[dw,ag (by simp[b]),ag c,ag (by simp[e]),ag (by simp[i])],k.dU a.ext⟩
end Go.Proofs.YtkeokgcdnfjaaaaGreatDoor.Mq
namespace Go.Proofs.YtkeokgcdnfjaaaaGreatDoor.Mq
open Go Go.RowKit Go.Proofs
section
theorem bA.F4 {α:Type} (E:bA α) {L V:List α} {p:Nat} (h:p+V.length≤L.length):dd (E.all L) (p*E.sz) (E.all V)=E.all (L.take p++V++L.drop (p+V.length)):=by
 have b: (p+V.length)*E.sz≤L.length*E.sz:=kT _ h
 rw[Mq.iY _ (by rw[E.dH,E.dH,←iU];exact b),E.all_append,E.all_append,E.dH];have a: ∀q,q≤L.length→(E.all L).take (q*E.sz)=E.all (L.take q)∧(E.all L).drop (q*E.sz)=E.all (L.drop q):=by
  intro q c;have e:E.all L=E.all (L.take q)++E.all (L.drop q):=by rw[←E.all_append,iT]
  have d: (E.all (L.take q)).length=q*E.sz:=by rw[E.dH,dn,iv c]
  constructor
  conv=>lhs;rw[e]
  rw[List.take_append_of_le_length aa,eu aa];conv=>lhs;rw[e]
  rw[List.drop_append_of_le_length aa,n0 aa,qw]
 rw[(a p aa).1,←iU,(a (p+V.length) h).2]
section
variable {P:Program} {n:Nat} {ops:Array Oper} {Q:cl} {rest:List Oper} {l:Fr} {d:Nat} {ty:TypeId} {pos:String} {a6:Array Edge}
variable {b:World} {S:List Nat} {cs:List Chunk}
theorem xh {α:Type} {E:bA α} {x y:Operand} {t e Ze:Nat} {z:List Value} {g m c C c1:Nat} {D:Option Addr} {L:List α} {A:Option Addr} {k c':Nat} {src:List α} {F:Nat→Prop} {cs':List Chunk} (p r:Nat) (Zf:r=min k C) (q:cY P t e E.sz Ze z) (ak:Nat.blt d n=true)
 (K:a_ l x=some (.slice D C c1)) (M:a_ l y=some (.slice A k c')) (ai:0<r→D=some ⟨g,p*E.sz,none⟩) (N:p+r≤L.length)
 (a:bn cs (own e E.sz (.slice (some ⟨g,0,none⟩) m c) m (E.all L)) (own e E.sz (.slice (some ⟨g,0,none⟩) m c) m (E.all (L.take p++src.take r++L.drop (p+r)))) cs')
 (Zg: ∀w,af b S cs w→Rd E w F A k c' src)
 (h:az P n ops Q rest ((d,.int .i64 (r:Int))::l) (af b S cs')):
 az P n ops Q (⟨some d,.call ⟨.builtin .copy,#[x,y],#[t,t]⟩,ty,pos,a6,none⟩::rest) l (af b S cs):=by
 obtain⟨i,fg,O,Zr,Zs,R,Zt⟩:=q.inf;refine ht ak λZu w s G=>?_
 have T:=G.has a.has
 have H:=Zg w G
 have I: (src.take r).length=r:=by rw[dn,H.len];omega
 have v: (E.all (src.take r)).length=r*E.sz:=by rw[E.dH,I]
 have Zv:L.length*E.sz=m*E.sz:=by
  have:=T.1
  rwa [E.dH] at this
 have Zh: (p+r)*E.sz≤L.length*E.sz:=kT _ N
 have Zw:=T.1
 have Zi:dd (E.all L) (p*E.sz) (E.all (src.take r))=E.all (L.take p++src.take r++L.drop (p+r)):=by
  rw[bA.F4 E (V:=src.take r) (by rw[I];exact N),I]
 rw[←Zi] at a
 obtain⟨w',B,U⟩:=G.r4 (P:=P) (xs:=E.all L) (o:=p*E.sz) (vs:=E.all (src.take r)) (by rw[v,E.dH,←iU];exact Zh) (E.wh _) a;have W: (Builtin.firstCells E.sz r (.slice A k c')).run P w= .ok (E.all (src.take r)).toArray w:=by
  rcases gF r with f | f
  subst f;cases A <;> simp[Builtin.firstCells,bA.all,loadCells,loadCellsFrom]
  obtain⟨bX,rfl,_,Zj⟩:=H.cells aa;have:=run_loadCellsFrom (P:=P) (w:=w) (p:=bX) (E.all (src.take r)) 0 #[] (λj u a=>by
   have Zk:j<r*E.sz:=by
    have:=(cU.1 a).1
    rwa [v] at this
   have X:0<E.sz:=q.pos
   have Zl:j/E.sz<r:=(Nat.div_lt_iff_lt_mul X).2 Zk
   have Zm:=iw j X
   have Zn:=Nat.div_add_mod j E.sz
   obtain⟨a0,Y⟩ : ∃a0,src[j/E.sz]? = some a0:=⟨src[j/E.sz]'(by have:=H.len;omega),bE _⟩;have Zo: (src.take r)[j/E.sz]? = some a0:=by rw[is,ax Zl];exact Y
   obtain⟨Z,Za⟩ : ∃Z,(E.enc a0)[j%E.sz]? = some Z:=⟨(E.enc a0)[j%E.sz]'(by rw[E.len];exact Zm),bE _⟩;have J:=E.lE Zo Za
   have Zb:j/E.sz*E.sz+j%E.sz=j:=by rw[qC];exact Zn
   rw[Zb,a] at J
   simp only[dz] at J
   subst J;have:=Zj _ _ _ _ Y Za
   rw[add_add,Zb] at this
   rw[dG];exact this)
  rw[v] at this
  simpa [Builtin.firstCells,loadCells] using this
 have Zc:Nat.min k C=r:=Zf.symm
 rcases gF r with f | f
 have Zd: (E.all (src.take r))=[]:=iR (by rw[v,f,qF])
 rw[Zd] at B
 have Zp:w'=w:=by
  simp[storeCells] at B
  exact B.symm
 subst Zp;refine⟨.int .i64 (r:Int),w',?_,h.at U⟩;cases D <;> simp[execOp,resolve,invoke,builtin,s x _ K,s y _ M,Builtin.copy_,run_underlying q.e8,Builtin.lenOf,run_sizeOf O,R,Zc,W,goInt,Zd,storeCells]
 have Zq:=ai f
 subst Zq;refine⟨.int .i64 (r:Int),w',?_,h.at U⟩;simp[execOp,resolve,invoke,builtin,s x _ K,s y _ M,Builtin.copy_,run_underlying q.e8,Builtin.lenOf,run_sizeOf O,R,Zc,W,goInt,B]
theorem PM {hX:Operand} {args:List Operand} {c_:Array TypeId} {f:FuncId} {first cap:List Value} {vs:List Value} {v:Value} {c c':Chunk} {cs':List Chunk} (ak:Nat.blt d n=true) (i:a_ l hX=some (.func (.func f) first.toArray cap.toArray)) (j:ad P f) (m:cH l args=some vs) (o:bn cs c c' cs') (a:c'.ce=c.ce) (p:c.ce.Nodup)
 (q: ∀w,af b S cs w→Calls P f (first++vs++cap).toArray w (λe w'=>e= .returned v∧Ext c.ce w w'∧c'.pred w'))
 (h:az P n ops Q rest ((d,v)::l) (af b S cs')):
 az P n ops Q (⟨some d,.call ⟨.value hX,args.toArray,c_⟩,ty,pos,a6,none⟩::rest) l (af b S cs):=by
 refine gJ i ak j m λw g=>?_
 have:=q w g
 simp only[List.append_toArray];refine this.mono ?_;rintro e w' ⟨rfl,r,ai⟩;exact⟨v,rfl,h.at (g.hV o r ai (λk s=> .inl (a▸s)) (a▸p))⟩
end
end
end Go.Proofs.YtkeokgcdnfjaaaaGreatDoor.Mq
namespace Go.Proofs.YtkeokgcdnfjaaaaGreatDoor.Mq
open Go Go.RowKit Go.Proofs Tryz
def jR (dg fn:Int):bh:=⟨0,[],0,⟨0,0,dg,fn,0⟩⟩
def jz (L:List bh) (x r:Int) (a:hF):List bh:=
 if x<0∨dw r<1∨(L.length:Int) - dw r<x then L else
 if dw r=2 then (L.set (x.toNat+1) ⟨r,[],2,a⟩).set x.toNat ⟨r,[],1,a⟩ else L.set x.toNat ⟨r,[],0,a⟩
def F5 (c:bh) (m:List UInt8):bh:={ c with more:=m }
def mC (L:List bh):List bh:=if 0<L.length then L.set (L.length - 1) qZ else L
def fm (L:List bh) (p k:Nat) (an aM:Int):List bh:=L.take p++List.replicate k (jR an aM)++L.drop (p+k)
def kt (L:List bh) (a to:Int) (an aM:Int):List bh:=
 if max 0 a<min to (L.length:Int) then fm L (max 0 a).toNat ((min to (L.length:Int)).toNat - (max 0 a).toNat) an aM else L
def lN (L:List bh) (p q m:Nat):List bh:=L.take q++(L.drop p).take m++L.drop (q+m)
def insertC (L:List bh) (x n:Int) (an aM:Int):List bh:=
 if x<0∨(L.length:Int)≤x∨n<1 then L else
 fm (lN L x.toNat (x+min n (L.length - x)).toNat ((L.length:Int) - x - min n (L.length - x)).toNat) x.toNat (min n (L.length - x)).toNat an aM
def jS (L:List bh) (x n:Int) (an aM:Int):List bh:=
 if x<0∨(L.length:Int)≤x∨n<1 then L else
 fm (lN L (x+min n (L.length - x)).toNat x.toNat ((L.length:Int) - x - min n (L.length - x)).toNat) ((L.length:Int) - min n (L.length - x)).toNat (min n (L.length - x)).toNat an aM
def cR (f:List bh→List bh) (L:List bh):List bh:=de (f (de L))
theorem q2 (L:List bh) (x r:Int) (a:hF): (jz L x r a).length=L.length:=by
 unfold jz;repeat' split
 all_goals simp
theorem xi (L:List bh): (mC L).length=L.length:=by
 unfold mC;split <;> simp
theorem uM {L:List bh} {p k:Nat} {an aM:Int} (h:p+k≤L.length): (fm L p k an aM).length=L.length:=by
 unfold fm;simp only[b0,dn,g_,fz];omega
theorem sF {L:List bh} {p q m:Nat} (ai:p+m≤L.length) (a:q+m≤L.length): (lN L p q m).length=L.length:=by
 unfold lN;simp only[b0,dn,fz];omega
theorem xj (L:List bh) (a b an aM:Int): (kt L a b an aM).length=L.length:=by
 unfold kt;split
 exact uM aa;rfl
theorem sG (L:List bh) (x n an aM:Int): (insertC L x n an aM).length=L.length:=by
 unfold insertC;split
 rfl
 have a: (lN L x.toNat (x+min n (L.length - x)).toNat ((L.length:Int) - x - min n (L.length - x)).toNat).length=L.length:=sF aa aa
 rw[uM (by rw[a];omega),a]
theorem sH (L:List bh) (x n an aM:Int): (jS L x n an aM).length=L.length:=by
 unfold jS;split
 rfl
 have a: (lN L (x+min n (L.length - x)).toNat x.toNat ((L.length:Int) - x - min n (L.length - x)).toNat).length=L.length:=sF aa aa
 rw[uM (by rw[a];omega),a]
theorem AC {f:List bh→List bh} (h: ∀L,(f L).length=L.length) (L:List bh): (cR f L).length=L.length:=by
 unfold cR;rw[hG,h,hG]
def ds (v:Value) (a:List bh) (w:World):Ending→World→Prop:=λe w'=>e= .returned (.tuple #[])∧Ext v.ownBlock.toList w w'∧(dL v a).pred w'
theorem AD {w:World} {v:Value} {m:Nat} {a:List bh} {xs:List Value} (h: (own 282 8 v m xs).pred w) (b:xs=bJ.all a) (c:a.length=m): (dL v a).pred w:=by
 subst b c;exact h
theorem sI {L:List bh} {q:Nat} (c:bh) (h:q<L.length):dd (bJ.all L) (q*8) c.enc=bJ.all (L.set q c):=by
 have:=bA.F4 bJ (L:=L) (V:=[c]) (p:=q) (by simp;omega)
 rw[qz,ax h];have e:bJ.all [c]=c.enc:=by simp[bA.all,bJ]
 rw[e] at this
 exact this.trans av
theorem ds.of {v:Value} {a:List bh} {w b:World} {m:Nat} {xs:List Value} {S:List Nat} {cs:List Chunk} (d:S=v.ownBlock.toList) (c:af w S cs b) (e:Has cs (own 282 8 v m xs)) (f:xs=bJ.all a) (g:a.length=m):ds v a w (.returned (.tuple #[])) b:=by
 subst d;exact⟨rfl,c.ext,AD (c.has e) f g⟩
theorem F6 (w:World) (an aM:Int):Calls prog 363 [.agg #[.int .i64 an,.int .i64 aM]].toArray w (Pure (.agg (jR an aM).enc.toArray) w):=by
 refine aW func363 ntmps363 ?_;refine ah ?_;intro c d e;refine aq ?_;intro f g h;refine al ?_;refine ao rfl E7 rfl (λa i=>FI a ⟨0,0,an,aM,0⟩) ?_;refine ay ?_;intro j b;exact⟨rfl,b.ext⟩
theorem AE (w:World) (g m c:Nat) (L:List bh) (p k c1:Nat) (b:Option Addr) (an aM:Int) (h: (own 282 8 (.slice (some ⟨g,0,none⟩) m c) m (bJ.all L)).pred w) (ai:0<k→b=some ⟨g,p*8,none⟩) (C:p+k≤L.length) (D:L.length≤1000000):
 Calls prog 383 [.slice b k c1,.agg #[.int .i64 an,.int .i64 aM]].toArray w (λe w'=>e= .returned (.tuple #[])∧Ext [g] w w'∧(own 282 8 (.slice (some ⟨g,0,none⟩) m c) m (bJ.all (fm L p k an aM))).pred w'):=by
 refine calls (n:=16) func383 rfl ntmps383 rfl ?_;refine cG (H':=af w (own 282 8 (.slice (some ⟨g,0,none⟩) m c) m (bJ.all L)).ce [own 282 8 (.slice (some ⟨g,0,none⟩) m c) m (bJ.all L)]) ?_ (Sub.refl _) (λx t=>af.qJ t h (uk _ _ _ _ _));refine ah ?_;intro l E F;refine aR ?_;refine b3 (ι:=Nat) (λi=>[(0,.slice b k c1),(3,ptr l),(6,.int .i64 (k:Int)),(7,.int .i64 (i:Int))]) (λi=>af w (own 282 8 (.slice (some ⟨g,0,none⟩) m c) m (bJ.all L)).ce [aD l [.int .i64 an,.int .i64 aM] 99,own 282 8 (.slice (some ⟨g,0,none⟩) m c) m (bJ.all (fm L p i an aM))]) (λi=>i≤k) (λi=>k - i) ?_ ?_;exact λw' d=>⟨0,bN _,(cu rfl rfl rfl rfl),by
  have e:fm L p 0 an aM=L:=by simp[fm]
  rw[e];exact d⟩
 intro i hi;refine al ?_;refine aj (λu=>?_) (λu=>?_);have G:i<k:=by omega
 have v:=ai aa
 subst v;have y:p+i<(fm L p i an aM).length:=by rw[uM aa];omega
 have z:fm L p (i+1) an aM=(fm L p i an aM).set (p+i) (jR an aM):=by
  unfold fm;apply ml
  intro j;have A: (L.take p).length=p:=by rw[dn];omega
  rw[n3];simp only[List.getElem?_append,b0,A,g_,rN,mm,fz];by_cases a:j<p
  have f: ¬p+i=j:=by omega
  simp[a,f,show j<p+i by omega,show j<p+(i+1) by omega]
  by_cases f:j=p+i
  subst f;simp[a,show p+i - p=i by omega,show i<i+1 by omega,show p+i<p+(i+1) by omega,show p+i<p+i+(L.length - (p+i)) by omega]
  by_cases r:j<p+i
  simp[a,r,show ¬p+i=j by omega,show j<p+(i+1) by omega,show j - p<i by omega,show j - p<i+1 by omega]
  simp[a,r,show ¬p+i=j by omega,show ¬j<p+(i+1) by omega,show p+(i+1)+(j - (p+(i+1)))=j by omega,show p+i+(j - (p+i))=j by omega]
 refine b5 ?_;refine ao rfl EZ rfl (λB H=>F6 B an aM) ?_;refine bD (q:=i) dv rfl rfl rfl rfl aa aa ?_;refine mu (o:=(p+i)*8) jN rfl rfl eo (by rw[Addr.add_lit,iU]) rfl (bJ.iW _) (by rw[bJ.dH];show (p+i)*8+8≤(fm L p i an aM).length*8;omega) ?_;refine aC ?_;refine bg (i+1) aa aa (cu rfl rfl rfl rfl) (λw' d=>?_);rw[z,←sI _ y];exact d;refine ay ?_;intro I s;have:i=k:=by omega
 subst this;exact⟨rfl,s.ext,s.has (Has.tail Has.head)⟩
theorem sJ {w:World} {v:Value} {L:List bh} (h: (dL v L).pred w) (x:World) (a:x=w):af w v.ownBlock.toList [dL v L] x:=af.qJ a h (uk _ _ _ _ _)
theorem PN (w:World) (v:Value) (L:List bh) (h: (dL v L).pred w) (i:L.length≤1000000):Calls prog 437 ([]++[v]++[]).toArray w (ds v (mC L) w):=by
 refine calls (n:=11) func437 rfl ntmps437 rfl ?_;refine cG (H':=af w v.ownBlock.toList [dL v L]) ?_ (Sub.refl _) (sJ h);refine hv Has.head (λA c b j k l d=>?_);subst b;refine aC ?_;refine aj (λe=>?_) (λe=>?_);obtain⟨g,rfl⟩:=d aa;refine al ?_;refine bD (q:=L.length - 1) dv rfl rfl rfl rfl aa aa ?_;refine mu (o:=(L.length - 1)*8) jN rfl rfl cz (by rw[Addr.add_lit,dG]) rfl (bJ.iW qZ) (by rw[bJ.dH];show (L.length - 1)*8+8≤L.length*8;omega) ?_;refine ar ?_;intro f a;exact ds.of rfl a Has.head (by rw[mC,ax aa];exact sI qZ aa) (xi L);refine ar ?_;intro f a;exact ds.of rfl a Has.head (by rw[mC,ag aa]) (xi L)
theorem PO (w:World) (f m p:Nat) (x r:Int) (a:hF) (B: (aD f [.int .i32 r] 21).pred w) (i: (aD m [.int .i64 x] 3).pred w) (C: (aD p a.enc 101).pred w)
 (v:Value) (L:List bh) (h: (dL v L).pred w) (M:L.length≤1000000) (ak: ∀k∈v.ownBlock.toList,k≠f∧k≠m∧k≠p):Calls prog 384 ([]++[v]++[ptr f,ptr m,ptr p]).toArray w (ds v (jz L x r a) w):=by
 have N:f∉v.ownBlock.toList:=λl=>(ak _ l).1 rfl
 have O:m∉v.ownBlock.toList:=λl=>(ak _ l).2.1 rfl
 have P:p∉v.ownBlock.toList:=λl=>(ak _ l).2.2 rfl
 refine calls (n:=39) func384 rfl ntmps384 rfl ?_;refine cG (H':=af w v.ownBlock.toList [dL v L]) ?_ (Sub.refl _) (sJ h);refine hv Has.head (λA c D Q R S E=>?_);subst D;have T:=Az r
 refine ar ?_;refine ba jt rfl rfl (λe b=>b.bV B bz rfl) ?_;refine ao rfl zS rfl (λF U=>AB F r) ?_;refine al ?_;refine ba bM rfl rfl (λe b=>b.bV i bz rfl) ?_;refine ar ?_;refine aV 11 rfl (λt=>?_) (λt=>?_)
 ·have G:=aY t
  refine ef ?_;intro s d;exact ds.of rfl d aQ (by rw[jz,ax aa]) (q2 _ _ _ _)
 ·have G:=a8 t
  refine al ?_;refine aV 15 rfl (λaH=>?_) (λaH=>?_)
  ·have H:=aY aH
   refine bH ?_;intro s d;exact ds.of rfl d aQ (by rw[jz,ax aa]) (q2 _ _ _ _)
  ·have H:=a8 aH
   refine aq ?_;refine ba bM rfl rfl (λe b=>b.bV i bz rfl) ?_;refine bH ?_;refine aj (λI=>?_) (λI=>?_)
   ·skip
    refine ah ?_;intro s d;exact ds.of rfl d aQ (by rw[jz,ax aa]) (q2 _ _ _ _)
   ·skip
    refine ah ?_;obtain⟨g,rfl⟩:=E aa;obtain⟨y,rfl⟩ : ∃y:Nat,x=(y:Int):=⟨x.toNat,aa⟩;refine aq ?_;refine ba jt rfl rfl (λe b=>b.bV B bz rfl) ?_;refine cw r_ rfl rfl rfl (λe b j u J=>b.jy (sz:=5) C bz rfl j u J) ?_;refine ar ?_;intro f V W;refine aR ?_;refine aj (λK=>?_) (λK=>?_)
    ·skip
     refine aJ ?_;refine ba bM rfl rfl (λe b=>b.bV i bz rfl) ?_;refine ar ?_;refine bD (q:=y+1) dv rfl rfl rfl rfl aa aa ?_;refine mu (o:=(y+1)*8) jN rfl rfl eo (by rw[Addr.add_lit,dG]) rfl (bJ.iW ⟨r,[],2,a⟩) (by rw[bJ.dH];show (y+1)*8+8≤L.length*8;omega) ?_;refine aJ ?_;refine ba bM rfl rfl (λe b=>b.bV i bz rfl) ?_;refine aq ?_;refine bD (q:=y) dv rfl rfl rfl rfl aa aa ?_;refine mu (o:=y*8) jN rfl rfl eo (by rw[Addr.add_lit,dG]) rfl (Ag rfl rfl rfl rfl rfl rfl rfl rfl) (by (rw[Dr,bJ.dH];show y*8+8≤L.length*8;omega)) ?_;refine ar ?_;intro s d;all_goals exact ds.of rfl d bF (by rw[jz,ag aa,ax aa];exact (aX (λz=>dd z (y*8) (bh.enc ⟨r,[],1,a⟩)) (sI ⟨r,[],2,a⟩ (by omega:y+1<L.length))).trans (sI ⟨r,[],1,a⟩ (by rw[fT];omega))) (q2 _ _ _ _)
    ·skip
     refine aS ?_;refine ba bM rfl rfl (λe b=>b.bV i bz rfl) ?_;refine aq ?_;refine bD (q:=y) dv rfl rfl rfl rfl aa aa ?_;refine mu (o:=y*8) jN rfl rfl eo (by rw[Addr.add_lit,dG]) rfl (Ag rfl rfl rfl rfl rfl rfl rfl rfl) (by (rw[bJ.dH];show y*8+8≤L.length*8;omega)) ?_;refine ar ?_;intro s d;all_goals exact ds.of rfl d bF (by rw[jz,ag aa,ag aa];exact sI ⟨r,[],0,a⟩ (by omega:y<L.length)) (q2 _ _ _ _)
abbrev oG (g m c:Nat) (L:List bh):Chunk:=own 282 8 (.slice (some ⟨g,0,none⟩) m c) m (bJ.all L)
theorem PP {w:World} {g m c:Nat} {L:List bh} (h: (oG g m c L).pred w) (a:L.length=m):Rd bJ w (λ_=>True) (some ⟨g,0,none⟩) m c L:=by
 obtain⟨A,c',b,d⟩:=Rd.fX (E:=bJ) (show w.ownsRow 0 282 bJ.sz _ _ (bJ.all L) from h) a;injection b with e i f
 subst e f;exact d.dC (λ_ _=>aU)
theorem F7 {w:World} {g m c:Nat} {L:List bh} (h: (oG g m c L).pred w) (a:L.length=m) {p:Nat} (ai:p≤m):Rd bJ w (λ_=>True) (if c=p then some ⟨g,0,none⟩ else (some (⟨g,0,none⟩ :Addr)).map (·.add (p*8))) (m - p) (c - p) (L.drop p):=by
 have:=(PP h a).cut ai (cd m)
 rwa [←a,qA,a] at this
theorem PQ (w:World) (e f i:Nat) (fr to an aM:Int) (p: (aD e [.int .i64 fr] 3).pred w) (q: (aD f [.int .i64 to] 3).pred w) (r: (aD i [.int .i64 an,.int .i64 aM] 99).pred w)
 (v:Value) (L:List bh) (h: (dL v L).pred w) (s:L.length≤1000000) (ak: ∀k∈v.ownBlock.toList,k≠e∧k≠f∧k≠i):Calls prog 382 ([]++[v]++[ptr e,ptr f,ptr i]).toArray w (ds v (kt L fr to an aM) w):=by
 have E:e∉v.ownBlock.toList:=λb=>(ak _ b).1 rfl
 have F:f∉v.ownBlock.toList:=λb=>(ak _ b).2.1 rfl
 have G:i∉v.ownBlock.toList:=λb=>(ak _ b).2.2 rfl
 refine calls (n:=22) func382 rfl ntmps382 rfl ?_;refine cG (H':=af w v.ownBlock.toList [dL v L]) ?_ (Sub.refl _) (sJ h);refine hv Has.head (λA c t H I J x=>?_);subst t;refine aq ?_;refine bG [0,1,2,3,4,5,6,7] 0 [[]] ?_;refine aL rfl (λl a=>(ba bM rfl rfl (λo d=>by subst d;exact a.bV p bz rfl) aG)) ?_;refine aq ?_;refine aL rfl (λl a=>(ba bM rfl rfl (λo d=>by subst d;exact a.bV q bz rfl) aG)) ?_;refine cE ?_;refine aj (λy=>?_) (λy=>?_);obtain⟨g,rfl⟩:=x aa;refine bG [0,1,2,3,4] 1 [[(5,true,[])]] ?_;refine ah ?_;refine aL rfl (λl a=>(fh (max 0 fr).toNat (min to (L.length:Int)).toNat dv rfl rfl (.inl ⟨_,_,rfl,rfl,aa⟩) (.inl ⟨_,_,rfl,rfl,aa⟩) aa aa aG)) ?_;refine aL rfl (λl a=>(cw gq rfl rfl rfl (λo d j u z=>by subst d;exact a.jy (sz:=2) r bz rfl j u z) aG)) ?_;refine ar ?_;refine qI (v:= .tuple #[]) (c:=oG g L.length c L) (c':=oG g L.length c (fm L (max 0 fr).toNat ((min to (L.length:Int)).toNat - (max 0 fr).toNat) an aM)) rfl zW rfl cz rfl (λB C=>AE B g L.length c L (max 0 fr).toNat _ _ _ an aM (C.has aQ) (λ_=>by rw[ag aa];simp[Addr.add_lit]) aa s) ?_;refine aS ?_;intro D m;exact ds.of rfl m aQ (by rw[kt,ax aa]) (xj _ _ _ _ _);refine ar ?_;intro D m;exact ds.of rfl m aQ (by rw[kt,ag aa]) (xj _ _ _ _ _)
theorem PR (w:World) (o p q:Nat) (x n an aM:Int) (b: (aD o [.int .i64 x] 3).pred w) (z: (aD p [.int .i64 n] 3).pred w) (B: (aD q [.int .i64 an,.int .i64 aM] 99).pred w)
 (v:Value) (L:List bh) (h: (dL v L).pred w) (C:L.length≤1000000) (ak: ∀k∈v.ownBlock.toList,k≠o∧k≠p∧k≠q):Calls prog 417 ([]++[v]++[ptr o,ptr p,ptr q]).toArray w (ds v (insertC L x n an aM) w):=by
 have Q:o∉v.ownBlock.toList:=λl=>(ak _ l).1 rfl
 have R:p∉v.ownBlock.toList:=λl=>(ak _ l).2.1 rfl
 have S:q∉v.ownBlock.toList:=λl=>(ak _ l).2.2 rfl
 refine calls (n:=41) func417 rfl ntmps417 rfl ?_;refine cG (H':=af w v.ownBlock.toList [dL v L]) ?_ (Sub.refl _) (sJ h);refine hv Has.head (λA c D T U V G=>?_);subst D;refine ah ?_;refine ba bM rfl rfl (λr d=>d.bV b bz rfl) ?_;refine ar ?_;refine aV 8 rfl (λs=>?_) (λs=>?_);have H:=aY s
 refine cE ?_;intro t f;exact ds.of rfl f aQ (by rw[insertC,ax aa]) (sG _ _ _ _ _);have H:=a8 s
 refine aq ?_;refine ba bM rfl rfl (λr d=>d.bV b bz rfl) ?_;refine aK ?_;refine aV 14 rfl (λaH=>?_) (λaH=>?_);have I:=aY aH
 refine aJ ?_;intro t f;exact ds.of rfl f aQ (by rw[insertC,ax aa]) (sG _ _ _ _ _);have I:=a8 aH
 refine aq ?_;refine ba bM rfl rfl (λr d=>d.bV z bz rfl) ?_;refine ay ?_;refine aj (λJ=>?_) (λJ=>?_);refine ah ?_;intro t f;exact ds.of rfl f aQ (by rw[insertC,ax aa]) (sG _ _ _ _ _);refine ah ?_;obtain⟨g,rfl⟩:=G aa;obtain⟨y,rfl⟩ : ∃y:Nat,x=(y:Int):=⟨x.toNat,aa⟩;obtain⟨N,K⟩ : ∃N:Nat,min n ((L.length:Int) - (y:Int))=(N:Int):=⟨(min n ((L.length:Int) - (y:Int))).toNat,aa⟩;refine aq ?_;refine ba bM rfl rfl (λr d=>d.bV z bz rfl) ?_;refine ar ?_;refine ba bM rfl rfl (λr d=>d.bV b bz rfl) ?_;refine al ?_;refine bG [0,1,2,3,4,5,6,7] 1 [[(8,true,[])]] ?_;refine aq ?_;refine aL rfl (λi a=>(ba bM rfl rfl (λm e=>by subst e;exact a.bV b bz rfl) aG)) ?_;refine ar ?_;refine aL rfl (λi a=>(fh (y+N) L.length dv rfl rfl (.inl ⟨_,_,rfl,rfl,aa⟩) (.inr ⟨rfl,rfl⟩) aa aa aG)) ?_;refine aq ?_;refine aL rfl (λi a=>(ba bM rfl rfl (λm e=>by subst e;exact a.bV b bz rfl) aG)) ?_;refine aL rfl (λi a=>(fh y L.length dv rfl rfl (.inl ⟨_,_,rfl,rfl,aa⟩) (.inr ⟨rfl,rfl⟩) aa aa aG)) ?_;refine ar ?_;refine xh (E:=bJ) (L:=L) (src:=L.drop y) (g:=g) (F:=λ_=>True) (y+N) (L.length - y - N) aa dv rfl rfl rfl (λW=>by rw[ag aa];simp[Addr.add_lit];rfl) aa cz (λm b=>F7 (b.has aQ) rfl aa) ?_;refine aS ?_;refine bG [0,1,2,3,4,5,6] 1 [[(7,true,[])]] ?_;refine aq ?_;refine aL rfl (λi a=>(ba bM rfl rfl (λm e=>by subst e;exact a.bV b bz rfl) aG)) ?_;refine aL rfl (λi a=>(ba bM rfl rfl (λm e=>by subst e;exact a.bV b bz rfl) aG)) ?_;refine ar ?_;refine aL rfl (λi a=>(fh y (y+N) dv rfl rfl (.inl ⟨_,_,rfl,rfl,aa⟩) (.inl ⟨_,_,rfl,rfl,aa⟩) aa aa aG)) ?_;refine aL rfl (λi a=>(cw gq rfl rfl rfl (λm e j u M=>by subst e;exact a.jy (sz:=2) B bz rfl j u M) aG)) ?_;refine ar ?_;refine qI (v:= .tuple #[]) (c:=oG g L.length c (lN L y (y+N) (L.length - y - N))) (c':=oG g L.length c (fm (lN L y (y+N) (L.length - y - N)) y (y+N - y) an aM)) rfl zW rfl cz rfl (λO P=>AE O g L.length c _ y _ _ _ an aM (P.has aQ) (λ_=>by rw[ag aa];simp[Addr.add_lit]) (by rw[sF aa aa];omega) (by rw[sF aa aa];exact C)) ?_;refine aS ?_;intro t f;exact ds.of rfl f aQ (by rw[insertC,ag aa,K,show ((y:Int)+(N:Int)).toNat=y+N by omega,show ((L.length:Int) - (y:Int) - (N:Int)).toNat=L.length - y - N by omega,show ((y:Int)).toNat=y by omega,show ((N:Int)).toNat=N by omega,show y+N - y=N by omega]) (sG _ _ _ _ _)
theorem PS (w:World) (m o p:Nat) (x n an aM:Int) (d: (aD m [.int .i64 x] 3).pred w) (z: (aD o [.int .i64 n] 3).pred w) (B: (aD p [.int .i64 an,.int .i64 aM] 99).pred w)
 (v:Value) (L:List bh) (h: (dL v L).pred w) (C:L.length≤1000000) (ak: ∀k∈v.ownBlock.toList,k≠m∧k≠o∧k≠p):Calls prog 421 ([]++[v]++[ptr m,ptr o,ptr p]).toArray w (ds v (jS L x n an aM) w):=by
 have Q:m∉v.ownBlock.toList:=λf=>(ak _ f).1 rfl
 have R:o∉v.ownBlock.toList:=λf=>(ak _ f).2.1 rfl
 have S:p∉v.ownBlock.toList:=λf=>(ak _ f).2.2 rfl
 refine calls (n:=41) func421 rfl ntmps421 rfl ?_;refine cG (H':=af w v.ownBlock.toList [dL v L]) ?_ (Sub.refl _) (sJ h);refine hv Has.head (λA c D T U V G=>?_);subst D;refine ah ?_;refine ba bM rfl rfl (λq a=>a.bV d bz rfl) ?_;refine ar ?_;refine aV 8 rfl (λr=>?_) (λr=>?_);have H:=aY r
 refine cE ?_;intro s e;exact ds.of rfl e aQ (by rw[jS,ax aa]) (sH _ _ _ _ _);have H:=a8 r
 refine aq ?_;refine ba bM rfl rfl (λq a=>a.bV d bz rfl) ?_;refine aK ?_;refine aV 14 rfl (λaH=>?_) (λaH=>?_);have I:=aY aH
 refine aJ ?_;intro s e;exact ds.of rfl e aQ (by rw[jS,ax aa]) (sH _ _ _ _ _);have I:=a8 aH
 refine aq ?_;refine ba bM rfl rfl (λq a=>a.bV z bz rfl) ?_;refine ay ?_;refine aj (λJ=>?_) (λJ=>?_);refine ah ?_;intro s e;exact ds.of rfl e aQ (by rw[jS,ax aa]) (sH _ _ _ _ _);refine ah ?_;obtain⟨g,rfl⟩:=G aa;obtain⟨y,rfl⟩ : ∃y:Nat,x=(y:Int):=⟨x.toNat,aa⟩;obtain⟨N,K⟩ : ∃N:Nat,min n ((L.length:Int) - (y:Int))=(N:Int):=⟨(min n ((L.length:Int) - (y:Int))).toNat,aa⟩;refine aq ?_;refine ba bM rfl rfl (λq a=>a.bV z bz rfl) ?_;refine ar ?_;refine ba bM rfl rfl (λq a=>a.bV d bz rfl) ?_;refine al ?_;refine bG [0,1,2,3,4,5,6,7] 1 [[(8,true,[])]] ?_;refine aq ?_;refine aL rfl (λi b=>(ba bM rfl rfl (λt l=>by subst l;exact b.bV d bz rfl) aG)) ?_;refine aL rfl (λi b=>(fh y L.length dv rfl rfl (.inl ⟨_,_,rfl,rfl,aa⟩) (.inr ⟨rfl,rfl⟩) aa aa aG)) ?_;refine aq ?_;refine aL rfl (λi b=>(ba bM rfl rfl (λt l=>by subst l;exact b.bV d bz rfl) aG)) ?_;refine ar ?_;refine aL rfl (λi b=>(fh (y+N) L.length dv rfl rfl (.inl ⟨_,_,rfl,rfl,aa⟩) (.inr ⟨rfl,rfl⟩) aa aa aG)) ?_;refine ar ?_;refine xh (E:=bJ) (L:=L) (src:=L.drop (y+N)) (g:=g) (F:=λ_=>True) y (L.length - y - N) aa dv rfl rfl rfl (λW=>by rw[ag aa];simp[Addr.add_lit];rfl) aa cz (λt d=>F7 (d.has aQ) rfl aa) ?_;refine aS ?_;refine bG [0,1,2,3,4,5,6] 1 [[(7,true,[])]] ?_;refine ay ?_;refine aL rfl (λi b=>(fh (L.length - N) L.length dv rfl rfl (.inl ⟨_,_,rfl,rfl,aa⟩) (.inr ⟨rfl,rfl⟩) aa aa aG)) ?_;refine aL rfl (λi b=>(cw gq rfl rfl rfl (λt l j u M=>by subst l;exact b.jy (sz:=2) B bz rfl j u M) aG)) ?_;refine ar ?_;refine qI (v:= .tuple #[]) (c:=oG g L.length c (lN L (y+N) y (L.length - y - N))) (c':=oG g L.length c (fm (lN L (y+N) y (L.length - y - N)) (L.length - N) (L.length - (L.length - N)) an aM)) rfl zW rfl cz rfl (λO P=>AE O g L.length c _ (L.length - N) _ _ _ an aM (P.has aQ) (λ_=>by rw[ag aa];simp[Addr.add_lit]) (by rw[sF aa aa];omega) (by rw[sF aa aa];exact C)) ?_;refine aS ?_;intro s e;exact ds.of rfl e aQ (by rw[jS,ag aa,K,show ((y:Int)+(N:Int)).toNat=y+N by omega,show ((L.length:Int) - (y:Int) - (N:Int)).toNat=L.length - y - N by omega,show ((y:Int)).toNat=y by omega,show ((N:Int)).toNat=N by omega,show ((L.length:Int) - (N:Int)).toNat=L.length - N by omega,show L.length - (L.length - N)=N by omega]) (sH _ _ _ _ _)
end Go.Proofs.YtkeokgcdnfjaaaaGreatDoor.Mq
