/- part 12 of the proof -/
import Derived.Test.YtoghoobfpcadbaaGreatDoorQ11
namespace Go.Proofs.YtoghoobfpcadbaaGreatDoor.Mq
open Go Go.RowKit Go.Proofs Tryz
def ny:bx (Int × Int):=⟨λp=>[.int .i32 p.1,.int .i32 p.2],2,λ_=>rfl,λ_=>aH.cons rfl (aH.cons rfl aH.nil)⟩
def uX:List (Int × Int):=[(768,879),(1155,1161),(1425,1469),(1552,1562),(1611,1631),(2304,2306),(2364,2364),(2369,2376),(3633,3633),(3636,3642),(6832,6911),(7616,7679),(8203,8207),(8400,8447),(8288,8292),(65024,65039),(65056,65071),(65279,65279),(917760,917999)]
def uY:List (Int × Int):=[(4352,4447),(8986,8987),(9001,9002),(9193,9196),(9725,9726),(9748,9749),(11904,12350),(12353,13311),(13312,19903),(19968,40959),(40960,42191),(43360,43391),(44032,55203),(63744,64255),(65072,65135),(65280,65376),(65504,65510),(127744,128591),(128640,128767),(129280,129535),(131072,196605),(196608,262141)]
def sM (r:Int) (p:Int × Int):Bool:=decide (p.1≤r) && decide (r≤p.2)
def lU (L:List (Int × Int)) (r:Int):Bool:=L.any (sM r)
def nz (r:Int):Bool:=decide (r<32) || (decide (127≤r) && decide (r<160)) || (decide (55296≤r) && decide (r<57344)) || decide (1114111<r)
def dC (r:Int):Int:=if nz r=true then -1 else if r<768 then 1 else if lU uX r=true then 0 else if lU uY r=true then 2 else 1
theorem AH (r:Int):dC r= -1∨dC r=0∨dC r=1∨dC r=2:=by
 unfold dC;repeat' split
 all_goals simp
def xr (L:List (Int × Int)) (a:World) (v:Value) (b:World):Prop:= ∃A c,v= .slice A L.length c∧Rd ny b (λk=>a.heap.size≤k) A L.length c L
theorem PY (w:World):Calls prog 385 [].toArray w (nn (xr uX w) w):=by
 refine aW func385 ntmps385 ?_;refine uN ?_;intro d e f;refine ax ?_;intro g a;have b:=Rd.ho (E:=ny) (L:=uX) a Has.head rfl aZ
 exact⟨_,rfl,a.ext,_,_,rfl,b.dJ (λk c=>by rw[c];assumption)⟩
theorem PZ (w:World):Calls prog 386 [].toArray w (nn (xr uY w) w):=by
 refine aW func386 ntmps386 ?_;refine xh ?_;intro d e f;refine ax ?_;intro g a;have b:=Rd.ho (E:=ny) (L:=uY) a Has.head rfl aZ
 exact⟨_,rfl,a.ext,_,_,rfl,b.dJ (λk c=>by rw[c];assumption)⟩
theorem AI (w:World) (r:Int):Calls prog 383 [.int .i32 r].toArray w (Pure (.bool (nz r)) w):=by
 refine aW func383 ntmps383 ?_;refine aR ?_;refine aX 5 rfl (λc=>?_) (λc=>?_);have i:=a1 c
 refine jC ?_;intro b a;exact⟨by simp only[nz,Ending.returned.injEq,Value.bool.injEq];(simp;omega),a.ext⟩;have i:=bc c
 refine al ?_;refine aX 8 rfl (λaK=>?_) (λaK=>?_);have j:=a1 aK
 refine aL ?_;refine aX 13 rfl (λd=>?_) (λd=>?_);have k:=a1 d
 refine dx ?_;intro b a;exact⟨by simp only[nz,Ending.returned.injEq,Value.bool.injEq];(simp;omega),a.ext⟩;have k:=bc d
 refine al ?_;refine aX 16 rfl (λe=>?_) (λe=>?_);have l:=a1 e
 refine aL ?_;refine aX 21 rfl (λf=>?_) (λf=>?_);have m:=a1 f
 refine aL ?_;intro b a;exact⟨by simp only[nz,Ending.returned.injEq,Value.bool.injEq];(simp;omega),a.ext⟩;have m:=bc f
 refine aR ?_;intro b a;exact⟨by simp only[nz,Ending.returned.injEq,Value.bool.injEq];(simp;omega),a.ext⟩;have l:=bc e
 refine dx ?_;intro b a;exact⟨by simp only[nz,Ending.returned.injEq,Value.bool.injEq];(simp;omega),a.ext⟩;have j:=bc aK
 refine bB ?_;refine aX 16 rfl (λg=>?_) (λg=>?_);have n:=a1 g
 refine aL ?_;refine aX 21 rfl (λh=>?_) (λh=>?_);have o:=a1 h
 refine aL ?_;intro b a;exact⟨by simp only[nz,Ending.returned.injEq,Value.bool.injEq];(simp;omega),a.ext⟩;have o:=bc h
 refine aR ?_;intro b a;exact⟨by simp only[nz,Ending.returned.injEq,Value.bool.injEq];(simp;omega),a.ext⟩;have n:=bc g
 refine dx ?_;intro b a;exact⟨by simp only[nz,Ending.returned.injEq,Value.bool.injEq];(simp;omega),a.ext⟩
theorem P0 (w:World) (p:Int × Int) (g:Nat) (r:Int) (d: (aE g [.int .i32 r] 21).pred w):Calls prog 430 ([]++[Value.agg (ny.enc p).toArray]++[ptr g]).toArray w (Pure (.bool (sM r p)) w):=by
 refine aW func430 ntmps430 ?_;refine ah ?_;intro i j k;refine ax ?_;refine dt (q:=0) underlying434 D2 rfl rfl rfl bb aa ?_;refine ar ?_;refine a7 jz rfl rfl (λe a=>a.bZ d av rfl) ?_;refine aq ?_;refine aX 8 rfl (λb=>?_) (λb=>?_);have f:=a1 b
 refine ar ?_;refine a7 jz rfl rfl (λe a=>a.bZ d av rfl) ?_;refine ar ?_;refine dt (q:=1) underlying434 D2 rfl rfl rfl bb aa ?_;refine aR ?_;intro h c;exact⟨by simp only[sM,Ending.returned.injEq,Value.bool.injEq];(simp;omega),c.ext⟩;have f:=bc b
 refine aR ?_;intro h c;exact⟨by simp only[sM,Ending.returned.injEq,Value.bool.injEq];(simp;omega),c.ext⟩
theorem P1 (w:World) (F:Nat→Prop) (A:Option Addr) (n c:Nat) (L:List (Int × Int)) (f:Rd ny w F A n c L) (B:n≤100) (g:Nat) (r:Int) (h: (aE g [.int .i32 r] 21).pred w):
 Calls prog 452 [.slice A n c,.func (.func 430) [].toArray [ptr g].toArray].toArray w (nn (λv _=> ∃k:Int,v= .int .i64 k∧decide (0≤k)=lU L r) w):=by
 have C:=f.len
 refine aW func452 ntmps452 ?_;refine b_ ?_;refine b1 (ι:=Nat) (λi=>[(0,.slice A n c),(1,.func (.func 430) [].toArray [ptr g].toArray),(7,.int .i64 (n:Int)),(8,.int .i64 (i:Int))]) (λ_=>af w [] []) (λi=>i≤n∧lU (L.take i) r=false) (λi=>n - i) ?_ ?_;exact λw' a=>⟨0,⟨bP _,by simp[lU]⟩,(cw rfl rfl rfl rfl),a⟩
 rintro i ⟨hi,d⟩;refine al ?_;refine aj (λl=>?_) (λl=>?_);obtain⟨p,ai⟩ : ∃p,L[i]? = some p:=⟨L[i]'aa,bG _⟩;obtain⟨D,E,_,m⟩:=f.at_ ai;have o:lU (L.take (i+1)) r=sM r p:=by
  rw[gk,ai,lU,List.any_append];rw[lU] at d
  rw[d];simp
 refine cI ?_;refine bw (q:=i) L8 rfl rfl rfl bA aa aa ?_;refine cy L9 rfl rfl (rfl) (λw' a j u s=>a.ct (m j u s) av) ?_;refine gx (first:=[]) (cap:=[ptr g]) rfl rfl O1 rfl (λt x=>P0 t p g r (x.dK h av)) ?_;refine aq ?_;refine b6 rfl (λb=>?_) (λb=>?_);refine bI ?_;intro y e;refine⟨_,rfl,e.ext,_,rfl,?_⟩;have z:lU L r=true:=List.any_eq_true.2 ⟨p,dc ai,b⟩
 rw[z];simp
 refine aD ?_;have b:sM r p=false:=by simpa using b
 exact bg (i+1) ⟨aa,by rw[o];exact b⟩ aa bR (λw' a=>a);refine bB ?_;intro y e;refine⟨_,rfl,e.ext,_,rfl,?_⟩;have:L.take i=L:=ez aa
 rw[this] at d
 rw[d];rfl
theorem P2 (w:World) (F:Nat→Prop) (A:Option Addr) (n c:Nat) (L:List (Int × Int)) (b:Rd ny w F A n c L) (d:n≤100) (g:Nat) (r:Int) (e: (aE g [.int .i32 r] 21).pred w):
 Calls prog 429 [.slice A n c,.func (.func 430) [].toArray [ptr g].toArray].toArray w (Pure (.bool (lU L r)) w):=by
 refine aW func429 ntmps429 ?_;refine aJ ?_;refine mC (R:=λ_ v _=> ∃k:Int,v= .int .i64 k∧decide (0≤k)=lU L r) rfl O8 rfl (λw' a=>P1 w' F A n c L (b.ext a.ext av) d g r (a.dK e av)) (λm o v f h p q i=>?_);obtain⟨k,rfl,j⟩:=i;refine al ?_;intro s l;exact⟨by rw[←j],f.ext.dZ (h.dZ l.ext)⟩
theorem F_ (w:World) (F:Nat→Prop) (A:Option Addr) (n c:Nat) (L:List (Int × Int)) (b:Rd ny w F A n c L) (d:n≤100) (r:Int):
 Calls prog 384 [.slice A n c,.int .i32 r].toArray w (Pure (.bool (lU L r)) w):=by
 refine aW func384 ntmps384 ?_;refine ah ?_;intro f g h;refine aD ?_;refine ao rfl O0 rfl (λw' a=>P2 w' F A n c L (b.ext a.ext av) d _ r (a.has Has.head)) ?_;refine ax ?_;intro i e;exact⟨rfl,e.ext⟩
theorem AJ (w:World) (r:Int):Calls prog 317 [.int .i32 r].toArray w (Pure (.int .i64 (dC r)) w):=by
 refine aW func317 ntmps317 ?_;refine aR ?_;refine ao rfl OC rfl (λl A=>AI l _) ?_;refine ah ?_;refine b6 rfl (λb=>?_) (λb=>?_);refine aJ ?_;intro d a;exact⟨by rw[dC,ay b],a.ext⟩;refine aD ?_;refine aj (λc=>?_) (λc=>?_);refine aJ ?_;intro d a;exact⟨by rw[dC,ag (by simp[b]),ay c],a.ext⟩;refine aq ?_;refine mC (R:=λf=>xr uX f) rfl OD rfl (λw' _=>PY w') (λB m v n o C D g=>?_);obtain⟨p,c1,rfl,q⟩:=g;have j:Ext [] w m:=n.ext.dZ o
 refine ar ?_;refine ao rfl E_ rfl (λw' h=>F_ w' _ p _ c1 uX (q.ext h.ext (by simp[aA])) aZ r) ?_;refine ah ?_;refine b6 rfl (λe=>?_) (λe=>?_);refine aJ ?_;intro d a;exact⟨by rw[dC,ag (by simp[b]),ag c,ay e],j.dZ a.ext⟩;refine aq ?_;refine mC (R:=λf=>xr uY f) rfl OE rfl (λw' _=>PZ w') (λE s v t u F G g=>?_);obtain⟨x,y,rfl,z⟩:=g;have k:Ext [] w s:=(j.dZ t.ext).dZ u
 refine ar ?_;refine ao rfl E_ rfl (λw' h=>F_ w' _ x _ y uY (z.ext h.ext (by simp[aA])) aZ r) ?_;refine ah ?_;refine b6 rfl (λi=>?_) (λi=>?_);refine aJ ?_;intro d a;exact⟨by rw[dC,ag (by simp[b]),ag c,ag (by simp[e]),ay i],k.dZ a.ext⟩;refine aR ?_;intro d a;exact⟨by rw[dC,ag (by simp[b]),ag c,ag (by simp[e]),ag (by simp[i])],k.dZ a.ext⟩
end Go.Proofs.YtoghoobfpcadbaaGreatDoor.Mq
namespace Go.Proofs.YtoghoobfpcadbaaGreatDoor.Mq
open Go Go.RowKit Go.Proofs
section
theorem bx.Ga {α:Type} (E:bx α) {L V:List α} {p:Nat} (h:p+V.length≤L.length):cZ (E.all L) (p*E.sz) (E.all V)=E.all (L.take p++V++L.drop (p+V.length)):=by
 have b: (p+V.length)*E.sz≤L.length*E.sz:=kZ _ h
 rw[Mq.hl _ (by rw[E.dE,E.dE,←i8];exact b),E.all_append,E.all_append,E.dE];have a: ∀q,q≤L.length→(E.all L).take (q*E.sz)=E.all (L.take q)∧(E.all L).drop (q*E.sz)=E.all (L.drop q):=by
  intro q c;have e:E.all L=E.all (L.take q)++E.all (L.drop q):=by rw[←E.all_append,i7]
  have d: (E.all (L.take q)).length=q*E.sz:=by rw[E.dE,dv,iE c]
  constructor
  conv=>lhs;rw[e]
  rw[List.take_append_of_le_length aa,ez aa];conv=>lhs;rw[e]
  rw[List.drop_append_of_le_length aa,n9 aa,oe]
 rw[(a p aa).1,←i8,(a (p+V.length) h).2]
section
variable {P:Program} {n:Nat} {ops:Array Oper} {Q:cq} {rest:List Oper} {l:Fr} {d:Nat} {ty:TypeId} {pos:String} {a6:Array Edge}
variable {b:World} {S:List Nat} {cs:List Chunk}
theorem xt {α:Type} {E:bx α} {x y:Operand} {t e Ze:Nat} {z:List Value} {g m c C c1:Nat} {D:Option Addr} {L:List α} {A:Option Addr} {k c':Nat} {src:List α} {F:Nat→Prop} {cs':List Chunk} (p r:Nat) (Zf:r=min k C) (q:c6 P t e E.sz Ze z) (ak:Nat.blt d n=true)
 (K:ba l x=some (.slice D C c1)) (M:ba l y=some (.slice A k c')) (ai:0<r→D=some ⟨g,p*E.sz,none⟩) (N:p+r≤L.length)
 (a:bn cs (own e E.sz (.slice (some ⟨g,0,none⟩) m c) m (E.all L)) (own e E.sz (.slice (some ⟨g,0,none⟩) m c) m (E.all (L.take p++src.take r++L.drop (p+r)))) cs')
 (Zg: ∀w,af b S cs w→Rd E w F A k c' src)
 (h:az P n ops Q rest ((d,.int .i64 (r:Int))::l) (af b S cs')):
 az P n ops Q (⟨some d,.call ⟨.builtin .copy,#[x,y],#[t,t]⟩,ty,pos,a6,none⟩::rest) l (af b S cs):=by
 obtain⟨i,fj,O,Zr,Zs,R,Zt⟩:=q.inf;refine hD ak λZu w s G=>?_
 have T:=G.has a.has
 have H:=Zg w G
 have I: (src.take r).length=r:=by rw[dv,H.len];omega
 have v: (E.all (src.take r)).length=r*E.sz:=by rw[E.dE,I]
 have Zv:L.length*E.sz=m*E.sz:=by
  have:=T.1
  rwa [E.dE] at this
 have Zh: (p+r)*E.sz≤L.length*E.sz:=kZ _ N
 have Zw:=T.1
 have Zi:cZ (E.all L) (p*E.sz) (E.all (src.take r))=E.all (L.take p++src.take r++L.drop (p+r)):=by
  rw[bx.Ga E (V:=src.take r) (by rw[I];exact N),I]
 rw[←Zi] at a
 obtain⟨w',B,U⟩:=G.sc (P:=P) (xs:=E.all L) (o:=p*E.sz) (vs:=E.all (src.take r)) (by rw[v,E.dE,←i8];exact Zh) (E.wv _) a;have W: (Builtin.firstCells E.sz r (.slice A k c')).run P w= .ok (E.all (src.take r)).toArray w:=by
  rcases gM r with f | f
  subst f;cases A <;> simp[Builtin.firstCells,bx.all,loadCells,loadCellsFrom]
  obtain⟨b2,rfl,_,Zj⟩:=H.cells aa;have:=run_loadCellsFrom (P:=P) (w:=w) (p:=b2) (E.all (src.take r)) 0 #[] (λj u a=>by
   have Zk:j<r*E.sz:=by
    have:=(cY.1 a).1
    rwa [v] at this
   have X:0<E.sz:=q.pos
   have Zl:j/E.sz<r:=(Nat.div_lt_iff_lt_mul X).2 Zk
   have Zm:=iF j X
   have Zn:=Nat.div_add_mod j E.sz
   obtain⟨a0,Y⟩ : ∃a0,src[j/E.sz]? = some a0:=⟨src[j/E.sz]'(by have:=H.len;omega),bG _⟩;have Zo: (src.take r)[j/E.sz]? = some a0:=by rw[iB,ay Zl];exact Y
   obtain⟨Z,Za⟩ : ∃Z,(E.enc a0)[j%E.sz]? = some Z:=⟨(E.enc a0)[j%E.sz]'(by rw[E.len];exact Zm),bG _⟩;have J:=E.lM Zo Za
   have Zb:j/E.sz*E.sz+j%E.sz=j:=by rw[qI];exact Zn
   rw[Zb,a] at J
   simp only[dI] at J
   subst J;have:=Zj _ _ _ _ Y Za
   rw[add_add,Zb] at this
   rw[dA];exact this)
  rw[v] at this
  simpa [Builtin.firstCells,loadCells] using this
 have Zc:Nat.min k C=r:=Zf.symm
 rcases gM r with f | f
 have Zd: (E.all (src.take r))=[]:=iZ (by rw[v,f,qL])
 rw[Zd] at B
 have Zp:w'=w:=by
  simp[storeCells] at B
  exact B.symm
 subst Zp;refine⟨.int .i64 (r:Int),w',?_,h.at U⟩;cases D <;> simp[execOp,resolve,invoke,builtin,s x _ K,s y _ M,Builtin.copy_,run_underlying q.e_,Builtin.lenOf,run_sizeOf O,R,Zc,W,goInt,Zd,storeCells]
 have Zq:=ai f
 subst Zq;refine⟨.int .i64 (r:Int),w',?_,h.at U⟩;simp[execOp,resolve,invoke,builtin,s x _ K,s y _ M,Builtin.copy_,run_underlying q.e_,Builtin.lenOf,run_sizeOf O,R,Zc,W,goInt,B]
theorem P3 {ie:Operand} {args:List Operand} {da:Array TypeId} {f:FuncId} {first cap:List Value} {vs:List Value} {v:Value} {c c':Chunk} {cs':List Chunk} (ak:Nat.blt d n=true) (i:ba l ie=some (.func (.func f) first.toArray cap.toArray)) (j:ad P f) (m:cM l args=some vs) (o:bn cs c c' cs') (a:c'.cm=c.cm) (p:c.cm.Nodup)
 (q: ∀w,af b S cs w→Calls P f (first++vs++cap).toArray w (λe w'=>e= .returned v∧Ext c.cm w w'∧c'.pred w'))
 (h:az P n ops Q rest ((d,v)::l) (af b S cs')):
 az P n ops Q (⟨some d,.call ⟨.value ie,args.toArray,da⟩,ty,pos,a6,none⟩::rest) l (af b S cs):=by
 refine gO i ak j m λw g=>?_
 have:=q w g
 simp only[List.append_toArray];refine this.mono ?_;rintro e w' ⟨rfl,r,ai⟩;exact⟨v,rfl,h.at (g.ic o r ai (λk s=> .inl (a▸s)) (a▸p))⟩
end
end
end Go.Proofs.YtoghoobfpcadbaaGreatDoor.Mq
namespace Go.Proofs.YtoghoobfpcadbaaGreatDoor.Mq
open Go Go.RowKit Go.Proofs Tryz
def jY (di fn:Int):bj:=⟨0,[],0,⟨0,0,di,fn,0⟩⟩
def jG (L:List bj) (x r:Int) (a:hM):List bj:=
 if x<0∨dC r<1∨(L.length:Int) - dC r<x then L else
 if dC r=2 then (L.set (x.toNat+1) ⟨r,[],2,a⟩).set x.toNat ⟨r,[],1,a⟩ else L.set x.toNat ⟨r,[],0,a⟩
def Gb (c:bj) (m:List UInt8):bj:={ c with more:=m }
def mG (L:List bj):List bj:=if 0<L.length then L.set (L.length - 1) q5 else L
def fp (L:List bj) (p k:Nat) (an aM:Int):List bj:=L.take p++List.replicate k (jY an aM)++L.drop (p+k)
def kz (L:List bj) (a to:Int) (an aM:Int):List bj:=
 if max 0 a<min to (L.length:Int) then fp L (max 0 a).toNat ((min to (L.length:Int)).toNat - (max 0 a).toNat) an aM else L
def lV (L:List bj) (p q m:Nat):List bj:=L.take q++(L.drop p).take m++L.drop (q+m)
def insertC (L:List bj) (x n:Int) (an aM:Int):List bj:=
 if x<0∨(L.length:Int)≤x∨n<1 then L else
 fp (lV L x.toNat (x+min n (L.length - x)).toNat ((L.length:Int) - x - min n (L.length - x)).toNat) x.toNat (min n (L.length - x)).toNat an aM
def jZ (L:List bj) (x n:Int) (an aM:Int):List bj:=
 if x<0∨(L.length:Int)≤x∨n<1 then L else
 fp (lV L (x+min n (L.length - x)).toNat x.toNat ((L.length:Int) - x - min n (L.length - x)).toNat) ((L.length:Int) - min n (L.length - x)).toNat (min n (L.length - x)).toNat an aM
def cV (f:List bj→List bj) (L:List bj):List bj:=dg (f (dg L))
theorem q8 (L:List bj) (x r:Int) (a:hM): (jG L x r a).length=L.length:=by
 unfold jG;repeat' split
 all_goals simp
theorem xu (L:List bj): (mG L).length=L.length:=by
 unfold mG;split <;> simp
theorem uZ {L:List bj} {p k:Nat} {an aM:Int} (h:p+k≤L.length): (fp L p k an aM).length=L.length:=by
 unfold fp;simp only[b8,dv,hd,fK];omega
theorem sN {L:List bj} {p q m:Nat} (ai:p+m≤L.length) (a:q+m≤L.length): (lV L p q m).length=L.length:=by
 unfold lV;simp only[b8,dv,fK];omega
theorem xv (L:List bj) (a b an aM:Int): (kz L a b an aM).length=L.length:=by
 unfold kz;split
 exact uZ aa;rfl
theorem sO (L:List bj) (x n an aM:Int): (insertC L x n an aM).length=L.length:=by
 unfold insertC;split
 rfl
 have a: (lV L x.toNat (x+min n (L.length - x)).toNat ((L.length:Int) - x - min n (L.length - x)).toNat).length=L.length:=sN aa aa
 rw[uZ (by rw[a];omega),a]
theorem sP (L:List bj) (x n an aM:Int): (jZ L x n an aM).length=L.length:=by
 unfold jZ;split
 rfl
 have a: (lV L (x+min n (L.length - x)).toNat x.toNat ((L.length:Int) - x - min n (L.length - x)).toNat).length=L.length:=sN aa aa
 rw[uZ (by rw[a];omega),a]
theorem AK {f:List bj→List bj} (h: ∀L,(f L).length=L.length) (L:List bj): (cV f L).length=L.length:=by
 unfold cV;rw[hN,h,hN]
def dy (v:Value) (a:List bj) (w:World):Ending→World→Prop:=λe w'=>e= .returned (.tuple #[])∧Ext v.ownBlock.toList w w'∧(dQ v a).pred w'
theorem AL {w:World} {v:Value} {m:Nat} {a:List bj} {xs:List Value} (h: (own 283 8 v m xs).pred w) (b:xs=bJ.all a) (c:a.length=m): (dQ v a).pred w:=by
 subst b c;exact h
theorem sQ {L:List bj} {q:Nat} (c:bj) (h:q<L.length):cZ (bJ.all L) (q*8) c.enc=bJ.all (L.set q c):=by
 have:=bx.Ga bJ (L:=L) (V:=[c]) (p:=q) (by simp;omega)
 rw[qG,ay h];have e:bJ.all [c]=c.enc:=by simp[bx.all,bJ]
 rw[e] at this
 exact this.trans av
theorem dy.of {v:Value} {a:List bj} {w b:World} {m:Nat} {xs:List Value} {S:List Nat} {cs:List Chunk} (d:S=v.ownBlock.toList) (c:af w S cs b) (e:Has cs (own 283 8 v m xs)) (f:xs=bJ.all a) (g:a.length=m):dy v a w (.returned (.tuple #[])) b:=by
 subst d;exact⟨rfl,c.ext,AL (c.has e) f g⟩
theorem Gc (w:World) (an aM:Int):Calls prog 379 [.agg #[.int .i64 an,.int .i64 aM]].toArray w (Pure (.agg (jY an aM).enc.toArray) w):=by
 refine aW func379 ntmps379 ?_;refine ah ?_;intro c d e;refine ar ?_;intro f g h;refine al ?_;refine ao rfl Fg rfl (λa i=>FP a ⟨0,0,an,aM,0⟩) ?_;refine ax ?_;intro j b;exact⟨rfl,b.ext⟩
theorem AM (w:World) (g m c:Nat) (L:List bj) (p k c1:Nat) (b:Option Addr) (an aM:Int) (h: (own 283 8 (.slice (some ⟨g,0,none⟩) m c) m (bJ.all L)).pred w) (ai:0<k→b=some ⟨g,p*8,none⟩) (C:p+k≤L.length) (D:L.length≤1000000):
 Calls prog 399 [.slice b k c1,.agg #[.int .i64 an,.int .i64 aM]].toArray w (λe w'=>e= .returned (.tuple #[])∧Ext [g] w w'∧(own 283 8 (.slice (some ⟨g,0,none⟩) m c) m (bJ.all (fp L p k an aM))).pred w'):=by
 refine calls (n:=16) func399 rfl ntmps399 rfl ?_;refine cL (H':=af w (own 283 8 (.slice (some ⟨g,0,none⟩) m c) m (bJ.all L)).cm [own 283 8 (.slice (some ⟨g,0,none⟩) m c) m (bJ.all L)]) ?_ (Sub.refl _) (λx t=>af.qP t h (uv _ _ _ _ _));refine ah ?_;intro l E F;refine aR ?_;refine b1 (ι:=Nat) (λi=>[(0,.slice b k c1),(3,ptr l),(6,.int .i64 (k:Int)),(7,.int .i64 (i:Int))]) (λi=>af w (own 283 8 (.slice (some ⟨g,0,none⟩) m c) m (bJ.all L)).cm [aE l [.int .i64 an,.int .i64 aM] 86,own 283 8 (.slice (some ⟨g,0,none⟩) m c) m (bJ.all (fp L p i an aM))]) (λi=>i≤k) (λi=>k - i) ?_ ?_;exact λw' d=>⟨0,bP _,(cw rfl rfl rfl rfl),by
  have e:fp L p 0 an aM=L:=by simp[fp]
  rw[e];exact d⟩
 intro i hi;refine al ?_;refine aj (λu=>?_) (λu=>?_);have G:i<k:=by omega
 have v:=ai aa
 subst v;have y:p+i<(fp L p i an aM).length:=by rw[uZ aa];omega
 have z:fp L p (i+1) an aM=(fp L p i an aM).set (p+i) (jY an aM):=by
  unfold fp;apply ms
  intro j;have A: (L.take p).length=p:=by rw[dv];omega
  rw[oa];simp only[List.getElem?_append,b8,A,hd,rU,mu,fK];by_cases a:j<p
  have f: ¬p+i=j:=by omega
  simp[a,f,show j<p+i by omega,show j<p+(i+1) by omega]
  by_cases f:j=p+i
  subst f;simp[a,show p+i - p=i by omega,show i<i+1 by omega,show p+i<p+(i+1) by omega,show p+i<p+i+(L.length - (p+i)) by omega]
  by_cases r:j<p+i
  simp[a,r,show ¬p+i=j by omega,show j<p+(i+1) by omega,show j - p<i by omega,show j - p<i+1 by omega]
  simp[a,r,show ¬p+i=j by omega,show ¬j<p+(i+1) by omega,show p+(i+1)+(j - (p+(i+1)))=j by omega,show p+i+(j - (p+i))=j by omega]
 refine b_ ?_;refine ao rfl E8 rfl (λB H=>Gc B an aM) ?_;refine bw (q:=i) dB rfl rfl rfl rfl aa aa ?_;refine jT (o:=(p+i)*8) jU rfl rfl er (by rw[Addr.add_lit,i8]) rfl (bJ.hj _) (by rw[bJ.dE];show (p+i)*8+8≤(fp L p i an aM).length*8;omega) ?_;refine aD ?_;refine bg (i+1) aa aa (cw rfl rfl rfl rfl) (λw' d=>?_);rw[z,←sQ _ y];exact d;refine ax ?_;intro I s;have:i=k:=by omega
 subst this;exact⟨rfl,s.ext,s.has (Has.tail Has.head)⟩
theorem sR {w:World} {v:Value} {L:List bj} (h: (dQ v L).pred w) (x:World) (a:x=w):af w v.ownBlock.toList [dQ v L] x:=af.qP a h (uv _ _ _ _ _)
theorem P4 (w:World) (v:Value) (L:List bj) (h: (dQ v L).pred w) (i:L.length≤1000000):Calls prog 453 ([]++[v]++[]).toArray w (dy v (mG L) w):=by
 refine calls (n:=11) func453 rfl ntmps453 rfl ?_;refine cL (H':=af w v.ownBlock.toList [dQ v L]) ?_ (Sub.refl _) (sR h);refine hE Has.head (λA c b j k l d=>?_);subst b;refine aD ?_;refine aj (λe=>?_) (λe=>?_);obtain⟨g,rfl⟩:=d aa;refine al ?_;refine bw (q:=L.length - 1) dB rfl rfl rfl rfl aa aa ?_;refine jT (o:=(L.length - 1)*8) jU rfl rfl cA (by rw[Addr.add_lit,dA]) rfl (bJ.hj q5) (by rw[bJ.dE];show (L.length - 1)*8+8≤L.length*8;omega) ?_;refine aq ?_;intro f a;exact dy.of rfl a Has.head (by rw[mG,ay aa];exact sQ q5 aa) (xu L);refine aq ?_;intro f a;exact dy.of rfl a Has.head (by rw[mG,ag aa]) (xu L)
theorem P5 (w:World) (f m p:Nat) (x r:Int) (a:hM) (B: (aE f [.int .i32 r] 21).pred w) (i: (aE m [.int .i64 x] 3).pred w) (C: (aE p a.enc 88).pred w)
 (v:Value) (L:List bj) (h: (dQ v L).pred w) (M:L.length≤1000000) (ak: ∀k∈v.ownBlock.toList,k≠f∧k≠m∧k≠p):Calls prog 400 ([]++[v]++[ptr f,ptr m,ptr p]).toArray w (dy v (jG L x r a) w):=by
 have N:f∉v.ownBlock.toList:=λl=>(ak _ l).1 rfl
 have O:m∉v.ownBlock.toList:=λl=>(ak _ l).2.1 rfl
 have P:p∉v.ownBlock.toList:=λl=>(ak _ l).2.2 rfl
 refine calls (n:=39) func400 rfl ntmps400 rfl ?_;refine cL (H':=af w v.ownBlock.toList [dQ v L]) ?_ (Sub.refl _) (sR h);refine hE Has.head (λA c D Q R S E=>?_);subst D;have T:=AH r
 refine aq ?_;refine a7 jz rfl rfl (λe b=>b.bZ B bA rfl) ?_;refine ao rfl z1 rfl (λF U=>AJ F r) ?_;refine al ?_;refine a7 bM rfl rfl (λe b=>b.bZ i bA rfl) ?_;refine aq ?_;refine aX 11 rfl (λt=>?_) (λt=>?_)
 ·have G:=a1 t
  refine et ?_;intro s d;exact dy.of rfl d aQ (by rw[jG,ay aa]) (q8 _ _ _ _)
 ·have G:=bc t
  refine al ?_;refine aX 15 rfl (λaK=>?_) (λaK=>?_)
  ·have H:=a1 aK
   refine bI ?_;intro s d;exact dy.of rfl d aQ (by rw[jG,ay aa]) (q8 _ _ _ _)
  ·have H:=bc aK
   refine ar ?_;refine a7 bM rfl rfl (λe b=>b.bZ i bA rfl) ?_;refine bI ?_;refine aj (λI=>?_) (λI=>?_)
   ·skip
    refine ah ?_;intro s d;exact dy.of rfl d aQ (by rw[jG,ay aa]) (q8 _ _ _ _)
   ·skip
    refine ah ?_;obtain⟨g,rfl⟩:=E aa;obtain⟨y,rfl⟩ : ∃y:Nat,x=(y:Int):=⟨x.toNat,aa⟩;refine ar ?_;refine a7 jz rfl rfl (λe b=>b.bZ B bA rfl) ?_;refine cy si rfl rfl rfl (λe b j u J=>b.jF (sz:=5) C bA rfl j u J) ?_;refine aq ?_;intro f V W;refine aR ?_;refine aj (λK=>?_) (λK=>?_)
    ·skip
     refine aJ ?_;refine a7 bM rfl rfl (λe b=>b.bZ i bA rfl) ?_;refine aq ?_;refine bw (q:=y+1) dB rfl rfl rfl rfl aa aa ?_;refine jT (o:=(y+1)*8) jU rfl rfl er (by rw[Addr.add_lit,dA]) rfl (bJ.hj ⟨r,[],2,a⟩) (by rw[bJ.dE];show (y+1)*8+8≤L.length*8;omega) ?_;refine aJ ?_;refine a7 bM rfl rfl (λe b=>b.bZ i bA rfl) ?_;refine ar ?_;refine bw (q:=y) dB rfl rfl rfl rfl aa aa ?_;refine jT (o:=y*8) jU rfl rfl er (by rw[Addr.add_lit,dA]) rfl (Ao rfl rfl rfl rfl rfl rfl rfl rfl) (by (rw[wu,bJ.dE];show y*8+8≤L.length*8;omega)) ?_;refine aq ?_;intro s d;all_goals exact dy.of rfl d bH (by rw[jG,ag aa,ay aa];exact (aV (λz=>cZ z (y*8) (bj.enc ⟨r,[],1,a⟩)) (sQ ⟨r,[],2,a⟩ (by omega:y+1<L.length))).trans (sQ ⟨r,[],1,a⟩ (by rw[fL];omega))) (q8 _ _ _ _)
    ·skip
     refine aS ?_;refine a7 bM rfl rfl (λe b=>b.bZ i bA rfl) ?_;refine ar ?_;refine bw (q:=y) dB rfl rfl rfl rfl aa aa ?_;refine jT (o:=y*8) jU rfl rfl er (by rw[Addr.add_lit,dA]) rfl (Ao rfl rfl rfl rfl rfl rfl rfl rfl) (by (rw[bJ.dE];show y*8+8≤L.length*8;omega)) ?_;refine aq ?_;intro s d;all_goals exact dy.of rfl d bH (by rw[jG,ag aa,ag aa];exact sQ ⟨r,[],0,a⟩ (by omega:y<L.length)) (q8 _ _ _ _)
abbrev oL (g m c:Nat) (L:List bj):Chunk:=own 283 8 (.slice (some ⟨g,0,none⟩) m c) m (bJ.all L)
theorem P6 {w:World} {g m c:Nat} {L:List bj} (h: (oL g m c L).pred w) (a:L.length=m):Rd bJ w (λ_=>True) (some ⟨g,0,none⟩) m c L:=by
 obtain⟨A,c',b,d⟩:=Rd.ga (E:=bJ) (show w.ownsRow 0 283 bJ.sz _ _ (bJ.all L) from h) a;injection b with e i f
 subst e f;exact d.dJ (λ_ _=>aT)
theorem Gd {w:World} {g m c:Nat} {L:List bj} (h: (oL g m c L).pred w) (a:L.length=m) {p:Nat} (ai:p≤m):Rd bJ w (λ_=>True) (if c=p then some ⟨g,0,none⟩ else (some (⟨g,0,none⟩ :Addr)).map (·.add (p*8))) (m - p) (c - p) (L.drop p):=by
 have:=(P6 h a).cut ai (ch m)
 rwa [←a,uk,a] at this
theorem P7 (w:World) (e f i:Nat) (fr to an aM:Int) (p: (aE e [.int .i64 fr] 3).pred w) (q: (aE f [.int .i64 to] 3).pred w) (r: (aE i [.int .i64 an,.int .i64 aM] 86).pred w)
 (v:Value) (L:List bj) (h: (dQ v L).pred w) (s:L.length≤1000000) (ak: ∀k∈v.ownBlock.toList,k≠e∧k≠f∧k≠i):Calls prog 398 ([]++[v]++[ptr e,ptr f,ptr i]).toArray w (dy v (kz L fr to an aM) w):=by
 have E:e∉v.ownBlock.toList:=λb=>(ak _ b).1 rfl
 have F:f∉v.ownBlock.toList:=λb=>(ak _ b).2.1 rfl
 have G:i∉v.ownBlock.toList:=λb=>(ak _ b).2.2 rfl
 refine calls (n:=22) func398 rfl ntmps398 rfl ?_;refine cL (H':=af w v.ownBlock.toList [dQ v L]) ?_ (Sub.refl _) (sR h);refine hE Has.head (λA c t H I J x=>?_);subst t;refine ar ?_;refine bF [0,1,2,3,4,5,6,7] 0 [[]] ?_;refine aI rfl (λl a=>(a7 bM rfl rfl (λo d=>by subst d;exact a.bZ p bA rfl) aC)) ?_;refine ar ?_;refine aI rfl (λl a=>(a7 bM rfl rfl (λo d=>by subst d;exact a.bZ q bA rfl) aC)) ?_;refine cI ?_;refine aj (λy=>?_) (λy=>?_);obtain⟨g,rfl⟩:=x aa;refine bF [0,1,2,3,4] 1 [[(5,true,[])]] ?_;refine ah ?_;refine aI rfl (λl a=>(ft (max 0 fr).toNat (min to (L.length:Int)).toNat dB rfl rfl (.inl ⟨_,_,rfl,rfl,aa⟩) (.inl ⟨_,_,rfl,rfl,aa⟩) aa aa aC)) ?_;refine aI rfl (λl a=>(cy gz rfl rfl rfl (λo d j u z=>by subst d;exact a.jF (sz:=2) r bA rfl j u z) aC)) ?_;refine aq ?_;refine qO (v:= .tuple #[]) (c:=oL g L.length c L) (c':=oL g L.length c (fp L (max 0 fr).toNat ((min to (L.length:Int)).toNat - (max 0 fr).toNat) an aM)) rfl z_ rfl cA rfl (λB C=>AM B g L.length c L (max 0 fr).toNat _ _ _ an aM (C.has aQ) (λ_=>by rw[ag aa];simp[Addr.add_lit]) aa s) ?_;refine aS ?_;intro D m;exact dy.of rfl m aQ (by rw[kz,ay aa]) (xv _ _ _ _ _);refine aq ?_;intro D m;exact dy.of rfl m aQ (by rw[kz,ag aa]) (xv _ _ _ _ _)
theorem P8 (w:World) (o p q:Nat) (x n an aM:Int) (b: (aE o [.int .i64 x] 3).pred w) (z: (aE p [.int .i64 n] 3).pred w) (B: (aE q [.int .i64 an,.int .i64 aM] 86).pred w)
 (v:Value) (L:List bj) (h: (dQ v L).pred w) (C:L.length≤1000000) (ak: ∀k∈v.ownBlock.toList,k≠o∧k≠p∧k≠q):Calls prog 433 ([]++[v]++[ptr o,ptr p,ptr q]).toArray w (dy v (insertC L x n an aM) w):=by
 have Q:o∉v.ownBlock.toList:=λl=>(ak _ l).1 rfl
 have R:p∉v.ownBlock.toList:=λl=>(ak _ l).2.1 rfl
 have S:q∉v.ownBlock.toList:=λl=>(ak _ l).2.2 rfl
 refine calls (n:=41) func433 rfl ntmps433 rfl ?_;refine cL (H':=af w v.ownBlock.toList [dQ v L]) ?_ (Sub.refl _) (sR h);refine hE Has.head (λA c D T U V G=>?_);subst D;refine ah ?_;refine a7 bM rfl rfl (λr d=>d.bZ b bA rfl) ?_;refine aq ?_;refine aX 8 rfl (λs=>?_) (λs=>?_);have H:=a1 s
 refine cI ?_;intro t f;exact dy.of rfl f aQ (by rw[insertC,ay aa]) (sO _ _ _ _ _);have H:=bc s
 refine ar ?_;refine a7 bM rfl rfl (λr d=>d.bZ b bA rfl) ?_;refine aL ?_;refine aX 14 rfl (λaK=>?_) (λaK=>?_);have I:=a1 aK
 refine aJ ?_;intro t f;exact dy.of rfl f aQ (by rw[insertC,ay aa]) (sO _ _ _ _ _);have I:=bc aK
 refine ar ?_;refine a7 bM rfl rfl (λr d=>d.bZ z bA rfl) ?_;refine ax ?_;refine aj (λJ=>?_) (λJ=>?_);refine ah ?_;intro t f;exact dy.of rfl f aQ (by rw[insertC,ay aa]) (sO _ _ _ _ _);refine ah ?_;obtain⟨g,rfl⟩:=G aa;obtain⟨y,rfl⟩ : ∃y:Nat,x=(y:Int):=⟨x.toNat,aa⟩;obtain⟨N,K⟩ : ∃N:Nat,min n ((L.length:Int) - (y:Int))=(N:Int):=⟨(min n ((L.length:Int) - (y:Int))).toNat,aa⟩;refine ar ?_;refine a7 bM rfl rfl (λr d=>d.bZ z bA rfl) ?_;refine aq ?_;refine a7 bM rfl rfl (λr d=>d.bZ b bA rfl) ?_;refine al ?_;refine bF [0,1,2,3,4,5,6,7] 1 [[(8,true,[])]] ?_;refine ar ?_;refine aI rfl (λi a=>(a7 bM rfl rfl (λm e=>by subst e;exact a.bZ b bA rfl) aC)) ?_;refine aq ?_;refine aI rfl (λi a=>(ft (y+N) L.length dB rfl rfl (.inl ⟨_,_,rfl,rfl,aa⟩) (.inr ⟨rfl,rfl⟩) aa aa aC)) ?_;refine ar ?_;refine aI rfl (λi a=>(a7 bM rfl rfl (λm e=>by subst e;exact a.bZ b bA rfl) aC)) ?_;refine aI rfl (λi a=>(ft y L.length dB rfl rfl (.inl ⟨_,_,rfl,rfl,aa⟩) (.inr ⟨rfl,rfl⟩) aa aa aC)) ?_;refine aq ?_;refine xt (E:=bJ) (L:=L) (src:=L.drop y) (g:=g) (F:=λ_=>True) (y+N) (L.length - y - N) aa dB rfl rfl rfl (λW=>by rw[ag aa];simp[Addr.add_lit];rfl) aa cA (λm b=>Gd (b.has aQ) rfl aa) ?_;refine aS ?_;refine bF [0,1,2,3,4,5,6] 1 [[(7,true,[])]] ?_;refine ar ?_;refine aI rfl (λi a=>(a7 bM rfl rfl (λm e=>by subst e;exact a.bZ b bA rfl) aC)) ?_;refine aI rfl (λi a=>(a7 bM rfl rfl (λm e=>by subst e;exact a.bZ b bA rfl) aC)) ?_;refine aq ?_;refine aI rfl (λi a=>(ft y (y+N) dB rfl rfl (.inl ⟨_,_,rfl,rfl,aa⟩) (.inl ⟨_,_,rfl,rfl,aa⟩) aa aa aC)) ?_;refine aI rfl (λi a=>(cy gz rfl rfl rfl (λm e j u M=>by subst e;exact a.jF (sz:=2) B bA rfl j u M) aC)) ?_;refine aq ?_;refine qO (v:= .tuple #[]) (c:=oL g L.length c (lV L y (y+N) (L.length - y - N))) (c':=oL g L.length c (fp (lV L y (y+N) (L.length - y - N)) y (y+N - y) an aM)) rfl z_ rfl cA rfl (λO P=>AM O g L.length c _ y _ _ _ an aM (P.has aQ) (λ_=>by rw[ag aa];simp[Addr.add_lit]) (by rw[sN aa aa];omega) (by rw[sN aa aa];exact C)) ?_;refine aS ?_;intro t f;exact dy.of rfl f aQ (by rw[insertC,ag aa,K,show ((y:Int)+(N:Int)).toNat=y+N by omega,show ((L.length:Int) - (y:Int) - (N:Int)).toNat=L.length - y - N by omega,show ((y:Int)).toNat=y by omega,show ((N:Int)).toNat=N by omega,show y+N - y=N by omega]) (sO _ _ _ _ _)
theorem P9 (w:World) (m o p:Nat) (x n an aM:Int) (d: (aE m [.int .i64 x] 3).pred w) (z: (aE o [.int .i64 n] 3).pred w) (B: (aE p [.int .i64 an,.int .i64 aM] 86).pred w)
 (v:Value) (L:List bj) (h: (dQ v L).pred w) (C:L.length≤1000000) (ak: ∀k∈v.ownBlock.toList,k≠m∧k≠o∧k≠p):Calls prog 437 ([]++[v]++[ptr m,ptr o,ptr p]).toArray w (dy v (jZ L x n an aM) w):=by
 have Q:m∉v.ownBlock.toList:=λf=>(ak _ f).1 rfl
 have R:o∉v.ownBlock.toList:=λf=>(ak _ f).2.1 rfl
 have S:p∉v.ownBlock.toList:=λf=>(ak _ f).2.2 rfl
 refine calls (n:=41) func437 rfl ntmps437 rfl ?_;refine cL (H':=af w v.ownBlock.toList [dQ v L]) ?_ (Sub.refl _) (sR h);refine hE Has.head (λA c D T U V G=>?_);subst D;refine ah ?_;refine a7 bM rfl rfl (λq a=>a.bZ d bA rfl) ?_;refine aq ?_;refine aX 8 rfl (λr=>?_) (λr=>?_);have H:=a1 r
 refine cI ?_;intro s e;exact dy.of rfl e aQ (by rw[jZ,ay aa]) (sP _ _ _ _ _);have H:=bc r
 refine ar ?_;refine a7 bM rfl rfl (λq a=>a.bZ d bA rfl) ?_;refine aL ?_;refine aX 14 rfl (λaK=>?_) (λaK=>?_);have I:=a1 aK
 refine aJ ?_;intro s e;exact dy.of rfl e aQ (by rw[jZ,ay aa]) (sP _ _ _ _ _);have I:=bc aK
 refine ar ?_;refine a7 bM rfl rfl (λq a=>a.bZ z bA rfl) ?_;refine ax ?_;refine aj (λJ=>?_) (λJ=>?_);refine ah ?_;intro s e;exact dy.of rfl e aQ (by rw[jZ,ay aa]) (sP _ _ _ _ _);refine ah ?_;obtain⟨g,rfl⟩:=G aa;obtain⟨y,rfl⟩ : ∃y:Nat,x=(y:Int):=⟨x.toNat,aa⟩;obtain⟨N,K⟩ : ∃N:Nat,min n ((L.length:Int) - (y:Int))=(N:Int):=⟨(min n ((L.length:Int) - (y:Int))).toNat,aa⟩;refine ar ?_;refine a7 bM rfl rfl (λq a=>a.bZ z bA rfl) ?_;refine aq ?_;refine a7 bM rfl rfl (λq a=>a.bZ d bA rfl) ?_;refine al ?_;refine bF [0,1,2,3,4,5,6,7] 1 [[(8,true,[])]] ?_;refine ar ?_;refine aI rfl (λi b=>(a7 bM rfl rfl (λt l=>by subst l;exact b.bZ d bA rfl) aC)) ?_;refine aI rfl (λi b=>(ft y L.length dB rfl rfl (.inl ⟨_,_,rfl,rfl,aa⟩) (.inr ⟨rfl,rfl⟩) aa aa aC)) ?_;refine ar ?_;refine aI rfl (λi b=>(a7 bM rfl rfl (λt l=>by subst l;exact b.bZ d bA rfl) aC)) ?_;refine aq ?_;refine aI rfl (λi b=>(ft (y+N) L.length dB rfl rfl (.inl ⟨_,_,rfl,rfl,aa⟩) (.inr ⟨rfl,rfl⟩) aa aa aC)) ?_;refine aq ?_;refine xt (E:=bJ) (L:=L) (src:=L.drop (y+N)) (g:=g) (F:=λ_=>True) y (L.length - y - N) aa dB rfl rfl rfl (λW=>by rw[ag aa];simp[Addr.add_lit];rfl) aa cA (λt d=>Gd (d.has aQ) rfl aa) ?_;refine aS ?_;refine bF [0,1,2,3,4,5,6] 1 [[(7,true,[])]] ?_;refine ax ?_;refine aI rfl (λi b=>(ft (L.length - N) L.length dB rfl rfl (.inl ⟨_,_,rfl,rfl,aa⟩) (.inr ⟨rfl,rfl⟩) aa aa aC)) ?_;refine aI rfl (λi b=>(cy gz rfl rfl rfl (λt l j u M=>by subst l;exact b.jF (sz:=2) B bA rfl j u M) aC)) ?_;refine aq ?_;refine qO (v:= .tuple #[]) (c:=oL g L.length c (lV L (y+N) y (L.length - y - N))) (c':=oL g L.length c (fp (lV L (y+N) y (L.length - y - N)) (L.length - N) (L.length - (L.length - N)) an aM)) rfl z_ rfl cA rfl (λO P=>AM O g L.length c _ (L.length - N) _ _ _ an aM (P.has aQ) (λ_=>by rw[ag aa];simp[Addr.add_lit]) (by rw[sN aa aa];omega) (by rw[sN aa aa];exact C)) ?_;refine aS ?_;intro s e;exact dy.of rfl e aQ (by rw[jZ,ag aa,K,show ((y:Int)+(N:Int)).toNat=y+N by omega,show ((L.length:Int) - (y:Int) - (N:Int)).toNat=L.length - y - N by omega,show ((y:Int)).toNat=y by omega,show ((N:Int)).toNat=N by omega,show ((L.length:Int) - (N:Int)).toNat=L.length - N by omega,show L.length - (L.length - N)=N by omega]) (sP _ _ _ _ _)
end Go.Proofs.YtoghoobfpcadbaaGreatDoor.Mq
