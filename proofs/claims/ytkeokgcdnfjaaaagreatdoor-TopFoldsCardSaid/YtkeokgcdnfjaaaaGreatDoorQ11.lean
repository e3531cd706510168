/- part 11 of the proof -/
import Derived.Test.YtkeokgcdnfjaaaaGreatDoorQ10
import Derived.Laws.Shifts
namespace Go.Proofs.YtkeokgcdnfjaaaaGreatDoor.Mq
open Go Go.RowKit Go.Proofs Tryz
section
theorem Pq {α:Type} (E:bA α) (a:α) (m:Nat):e9 (E.enc a) m=E.all (List.replicate m a):=by
 induction m with
 | zero=>simp[e9,bA.all]
 | succ m b=>
  have: ∀(l:List α),E.all (a::l)=E.enc a++E.all l:=λl=>by simp[bA.all]
  rw[mn,this,e9,b]
theorem FR: ∀{rows:List bQ} {row:bQ},row∈rows→row.1.length≤d4 rows
 | r::rows,row,h=>by
  have a:d4 (r::rows)=r.1.length+d4 rows:=by simp[d4]
  rcases eD.1 h with rfl | h
  omega
  have:=FR h
  omega
def oA (l:List bh):Nat:=(l.filter (λc=>decide (c.half≠3))).length
def fj (rows:List bQ) (k:Nat):Nat:=(cellsOf (rows.take k)).length
theorem Pr {rows:List bQ} {k:Nat} {row:bQ} (h:rows[k]? = some row):fj rows (k+1)=fj rows k+oA row.1:=by
 rw[fj,kr h,FM,b0];rfl
theorem pS (rows:List bQ) (k:Nat):fj rows k≤d4 rows:=fp (xa _) (Al rows k)
theorem xd {rows:List bQ} {j k:Nat} (h:j≤k):fj rows j≤fj rows k:=by
 have:rows.take k=rows.take j++(rows.take k).drop j:=by
  conv=>lhs;rw[←iT j (rows.take k),List.take_take,iv h]
 rw[fj,fj,this];simp[cellsOf]
theorem Ps (l:List bh):oA l≤l.length:=List.length_filter_le _ _
theorem Pt {l:List bh} {k:Nat} {x:bh} (a:l[k]? = some x):oA (l.take (k+1))=if x.half≠3 then oA (l.take k)+1 else oA (l.take k):=by
 unfold oA;rw[kr a,Ak];by_cases h:x.half=3 <;> simp[h]
theorem pT (w:World) (F:Nat→Prop) (A:Option Addr) (n c:Nat) (l:List bh) (b:Bool) (h:Rd bJ w F A n c l) (s:n≤1000000):
 Calls prog 350 [.agg [.slice A n c,.bool b].toArray].toArray w (λe w'=>e= .returned (.int .i64 (oA l:Int))∧Ext [] w w'):=by
 have t:=h.len
 refine aW func350 ntmps350 ?_;refine ah ?_;intro v y z;refine eT ?_;refine b3 (ι:=Nat) (λi=>[(3,.int .i64 (oA (l.take i):Int)),(7,.slice A n c),(8,.int .i64 (n:Int)),(9,.int .i64 (i:Int))]) (λ_=>af w [] []) (λi=>i≤n) (λi=>n - i) ?_ ?_;exact λw f=>⟨0,bN _,(cu rfl rfl rfl rfl),f.rem bv.head⟩
 rintro j k;have o:=Ps (l.take j)
 rw[dn] at o
 refine al ?_;refine aj (λp=>?_) (λp=>?_);obtain⟨x,m⟩ : ∃x,l[j]? = some x:=⟨l[j]'aa,bE _⟩;obtain⟨B,C,_,q⟩:=h.at_ m;have d:=Pt m
 refine al ?_;refine bD dv rfl rfl rfl bz a7 aa ?_;refine cw jN rfl rfl (rfl) (λw' a j u k=>a.ct (q j u k) av) ?_;refine aq ?_;intro D E G;refine aR ?_;refine aj (λg=>?_) (λg=>?_);refine bo ?_;rw[ax g] at d
 exact bg (j+1) aa aa (Sub.cons (by rw[d];rfl) bO) (λw' a=>a.rem bv.head);refine aC ?_;rw[ag g] at d
 exact bg (j+1) aa aa (Sub.cons (by rw[d];rfl) bO) (λw' a=>a.rem bv.head);refine bH ?_;intro H f;have r:j=n:=by omega
 subst r;exact⟨by rw[eu aa],f.ext⟩
def iB (rows:List bQ):List Int:=(List.range rows.length).map (λk=>(fj rows (k+1):Int))
theorem oB (rows:List bQ): (iB rows).length=rows.length:=by simp[iB]
theorem sx {rows:List bQ} {k:Nat} (h:k<rows.length): (iB rows)[k]? = some (fj rows (k+1):Int):=by simp[iB,h]
theorem FS (m:Nat):e9 [.int .i64 0] m=bS.all (List.replicate m (0 :Int)):=Pq bS (0 :Int) m
theorem FT (w:World) (F:Nat→Prop) (A:Option Addr) (n c:Nat) (rows:List bQ) (f:ep w F A n c rows) (G:n≤1000000) (H:d4 rows≤1000000):
 Calls prog 269 [.slice A n c].toArray w (ia bS w (iB rows)):=by
 have t:=f.len
 refine aW func269 ntmps269 ?_;refine aJ ?_;refine r6 n dJ rfl rfl rfl rfl (by simp only[maxLen];omega) aa (λg I J=>?_);refine aS ?_;rw[FS];refine bH ?_;refine b3 (ι:=Nat) (λi=>[(3,.slice (some ⟨g,0,none⟩) n n),(4,.int .i64 (fj rows i:Int)),(10,.slice A n c),(11,.int .i64 (n:Int)),(12,.int .i64 (i:Int))]) (λi=>af w [] [own 3 1 (.slice (some ⟨g,0,none⟩) n n) n (bS.all ((iB rows).take i++List.replicate (n - i) 0))]) (λi=>i≤n) (λi=>n - i) ?_ ?_;exact λw b=>⟨0,bN _,(ec rfl rfl rfl rfl rfl),by simpa using b⟩
 rintro j h;refine al ?_;refine aj (λx=>?_) (λx=>?_);obtain⟨row,e⟩ : ∃row,rows[j]? = some row:=⟨rows[j]'aa,bE _⟩;obtain⟨bX,y,m,d,K,_,z,l⟩:=f.at_ e;have L:=Pr e
 have M:=pS rows (j+1)
 have N:=l.len
 have O:row.1.length≤d4 rows:=FR (c8 e)
 have B:=sx (rows:=rows) (k:=j) aa
 have p: ((iB rows).take j).length=j:=by rw[dn,oB];omega
 have C: ((iB rows).take j++List.replicate (n - j) (0 :Int))[j]? = some 0:=by
  rw[kS aa,p,mX,rN,ax aa]
 have r:=bS.pr (j:=0) (a':=(fj rows (j+1):Int)) (v:= .int .i64 (fj rows (j+1):Int)) C a1 rfl
 rw[rQ _ _ aa,p,mX,show n - j=(n - (j+1))+1 by omega,mn,mo,show j*bS.sz+0=j by simp[bS]] at r
 refine aC ?_;refine bD dI rfl rfl rfl bz a7 aa ?_;refine cw gL rfl rfl (rfl) (λw' a j u h=>a.ct (z j u h) av) ?_;refine aq ?_;intro P Q R;refine aK ?_;refine ao rfl Oe rfl (λw' a=>pT w' _ y m d row.1 row.2 (l.ext a.ext av) aa) ?_;refine aS ?_;rw[show (fj rows j:Int)+(oA row.1 :Int)=(fj rows (j+1):Int) by omega];refine aS ?_;refine bD (q:=j) dJ rfl rfl rfl a7 aa aa ?_;refine kW (o:=j) bM rfl rfl eo (by simp[Addr.add_lit]) rfl (by rw[bS.dH];show _<_*1;simp[oB];omega) ?_;refine aC ?_;refine bg (j+1) aa aa (ec rfl rfl rfl rfl rfl) (λw' a=>?_);have:=a.rem bv.head
 rw[show n - j=(n - (j+1))+1 by omega,mn,r] at this
 rw[kr B,e0];simpa using this
 refine bH ?_;intro S b;have D:j=n:=by omega
 subst D;have s:=b.has Has.head
 rw[mX,List.replicate_zero,fJ,eu (by rw[oB];omega)] at s
 exact ia.fX b.ext s (by rw[oB];exact t) (λk E=>by simp only[Value.ownBlock,dz] at E;omega)
theorem uG (w:World) (F:Nat→Prop) (A:Option Addr) (n c:Nat) (rows:List bQ) (b:Rd bS w F A n c (iB rows)) (k:Nat) (l:k≤n) (m:n≤1000000):
 Calls prog 352 [.slice A n c,.int .i64 (k:Int)].toArray w (λe w'=>e= .returned (.int .i64 (fj rows k:Int))∧Ext [] w w'):=by
 have d:=b.len
 rw[oB] at d
 refine aW func352 ntmps352 ?_;refine bw ?_;refine aj (λf=>?_) (λf=>?_);refine aK ?_;intro g a;have:k=0:=by omega
 subst this;exact⟨rfl,a.ext⟩;obtain⟨k,rfl⟩ : ∃j,k=j+1:=⟨k - 1,aa⟩;obtain⟨bX,o,_,h⟩:=b.at_ (sx (rows:=rows) (k:=k) aa);refine aC ?_;refine bD (q:=k) dJ rfl rfl rfl bz aa aa ?_;refine ba bM rfl rfl (λw' i=>i.ct (h 0 _ rfl) av) ?_;refine ay ?_;intro g a;exact⟨rfl,a.ext⟩
def jw (rows:List bQ) (p:bl):Int:=
 if p.row<0 then 0 else if (rows.length:Int)≤p.row then (fj rows rows.length:Int)
 else (fj rows p.row.toNat:Int)+min (max 0 p.dm) ((fj rows (p.row.toNat+1):Int) - (fj rows p.row.toNat:Int))
theorem FU (w:World) (F:Nat→Prop) (A:Option Addr) (n c:Nat) (rows:List bQ) (f:Rd bS w F A n c (iB rows)) (a o:Int) (r:n≤1000000) (z:d4 rows≤1000000):
 Calls prog 271 [.slice A n c,.agg [.int .i64 a,.int .i64 o].toArray].toArray w (λe w'=>e= .returned (.int .i64 (jw rows ⟨a,o⟩))∧Ext [] w w'):=by
 have g:=f.len
 rw[oB] at g
 refine aW func271 ntmps271 ?_;refine ah ?_;intro B C D;refine bo ?_;refine aV 10 rfl (λh=>?_) (λh=>?_);have d:=aY h
 refine ef ?_;intro i b;exact⟨by rw[jw,ax (show a<0 from d)],b.ext⟩;have d:=a8 h
 refine aR ?_;refine aj (λs=>?_) (λs=>?_);refine aJ ?_;intro i b;have t:n=0:=by omega
 refine⟨?_,b.ext⟩;rw[jw,ag (show ¬a<0 from d),ax (show (rows.length:Int)≤a by omega),g,t];rfl
 refine aR ?_;refine aj (λu=>?_) (λu=>?_);obtain⟨bX,v,_,l⟩:=f.at_ (sx (rows:=rows) (k:=n - 1) aa);refine al ?_;refine bD (q:=n - 1) dJ rfl rfl rfl bz aa aa ?_;refine ba bM rfl rfl (λw' m=>m.ct (l 0 _ rfl) av) ?_;refine aC ?_;intro i b;refine⟨?_,b.ext⟩;rw[jw,ag (show ¬a<0 from d),ax (show (rows.length:Int)≤a by omega),g,show n - 1+1=n by omega];obtain⟨k,rfl⟩ : ∃k:Nat,a=k:=⟨a.toNat,aa⟩;obtain⟨bX,v,_,l⟩:=f.at_ (sx (rows:=rows) (k:=k) aa);have E:=pS rows k
 have G:=pS rows (k+1)
 have H:=xd (rows:=rows) (j:=k) (k:=k+1) aa
 refine aK ?_;refine ao rfl zU rfl (λw' m=>uG w' F A n c rows (f.ext m.ext av) k aa r) ?_;refine aS ?_;refine bG [0,1,2,3,4,5,6,7,8,9,10,11,12,13] 0 [[]] ?_;refine aC ?_;refine aL rfl (λx p=>(bD (q:=k) dJ rfl rfl rfl bz aa aa aG)) ?_;refine aL rfl (λx p=>(ba bM rfl rfl (λI y=>by subst y;exact p.ct (l 0 _ rfl) av) aG)) ?_;refine aR ?_;intro i b;refine⟨?_,b.ext⟩;rw[jw,ag (show ¬(k:Int)<0 from d),ag (show ¬(rows.length:Int)≤(k:Int) by omega)];rfl
theorem ep.cut {w:World} {F:Nat→Prop} {A:Option Addr} {n c:Nat} {rows:List bQ} (h:ep w F A n c rows) {p q:Nat} (d:p≤q) (e:q≤n):
 ep w F (if c=p then A else A.map (·.add (p*2))) (q - p) (c - p) ((rows.take q).drop p):=by
 obtain⟨eN,f,g,i⟩:=h.hs;refine⟨(eN.take q).drop p,f.cut d e,?_,λk r row a b=>?_⟩;rw[List.map_drop,List.map_take,g,List.map_drop,List.map_take];rw[mm,is] at a b
 split at a
 rename_i j;rw[ax j] at b
 exact i _ r row a b;cases a
theorem Pu (a b:List bQ):d4 (a++b)=d4 a+d4 b:=by simp[d4]
theorem Pv (rows:List bQ) (k:Nat):d4 (rows.drop k)≤d4 rows:=by
 have h:=iT k rows
 have:d4 rows=d4 (rows.take k)+d4 (rows.drop k):=by rw[←Pu,h]
 omega
section
variable {P:Program} {n:Nat} {ops:Array Oper} {Q:cl} {rest:List Oper} {l:Fr} {H:World→Prop} {d:Nat} {ty:TypeId} {pos:String} {a6:Array Edge}
theorem FV {cn du:TypeId} {x y:Operand} {k aH:IntKind} {a b r:Int} (ak:Nat.blt d n=true) (e:a_ l x=some (.int k a)) (f:a_ l y=some (.int aH b)) (g:0≤b) (i:a/2 ^ min b.toNat k.bits=r)
 (h:az P n ops Q rest ((d,.int k r)::l) H):az P n ops Q (⟨some d,.binOp .shr cn x y du,ty,pos,a6,none⟩::rest) l H:=
 da _ ak (λj w c=>by simp[execOp,c x _ e,c y _ f,eqGuard,binOp,shift_shr_any k aH a b g,i]) h
end
theorem Pw (w:World) (n a:Nat) (f:FuncId) (cap:List Value) (p:Nat→Bool) (B:n≤1000000) (q:ad prog f)
 (s: ∀w',Ext [] w w'→ ∀i:Nat,i<n→Calls prog f (([]:List Value)++[Value.int .i64 (i:Int)]++cap).toArray w' (λe u=>e= .returned (.bool (p i))∧Ext [] w' u))
 (ai: ∀i j,i≤j→j<n→p i=true→p j=true) (C:a≤n) (c: ∀j,j<a→p j=false) (d:a<n→p a=true):
 Calls prog 277 [.int .i64 (n:Int),.func (.func f) [].toArray cap.toArray].toArray w (λe w'=>e= .returned (.int .i64 (a:Int))∧Ext [] w w'):=by
 refine aW func277 ntmps277 ?_;refine b5 ?_;refine b3 (ι:=Nat × Nat) (λi=>[(1,.func (.func f) [].toArray cap.toArray),(5,.int .i64 (i.1 :Int)),(6,.int .i64 (i.2 :Int))]) (λ_=>af w [] []) (λi=>i.1≤i.2∧i.2≤n∧(∀t,t<i.1→p t=false)∧(∀t,i.2≤t→t<n→p t=true)) (λi=>i.2 - i.1) ?_ ?_;exact λw g=>⟨(0,n),⟨bN _,cd _,by simp,λt c d=>by omega⟩,(dZ rfl rfl rfl),g⟩
 rintro⟨i,j⟩ ⟨v,o,k,l⟩;dsimp only at v o k l ⊢
 refine aK ?_;refine aj (λx=>?_) (λx=>?_);refine aK ?_;refine dl rfl rfl underlying3 underlying258 (r:=(i:Int)+(j:Int)) (by simp[IntKind.wrap,IntKind.bits,IntKind.signed];omega) ?_;refine FV rfl rfl rfl a1 (r:=(((i+j)/2 :Nat):Int)) (by rw[show min (1 :Int).toNat IntKind.u64.bits=1 from rfl];omega) ?_;refine ay ?_;generalize D: (i+j)/2=m
 refine ah ?_;refine gK rfl rfl q rfl (λw' y=>s w' y.ext m aa) ?_;refine ah ?_;refine b2 rfl (λb=>?_) (λb=>?_);have b:p m=false:=by simpa using b
 refine al ?_;refine bg (m+1,j) ⟨aa,o,λt E=>?_,l⟩ (by simp;omega) (dZ rfl rfl rfl) (λ_ h=>h);cases z:p t with
 | false=>rfl
 | true=>rw[ai t m aa aa z] at b;cases b
 have b:p m=true:=by simpa using b
 refine ay ?_;exact bg (i,m) ⟨aa,aa,k,λt c d=>ai m t c d b⟩ (by simp;omega) bO (λ_ h=>h);refine bH ?_;intro F g;have A:i=j:=by omega
 subst A;have:a=i:=by
  rcases Nat.lt_trichotomy a i with h | h | h
  have:=k a h
  rw[d aa] at this
  cases this
  exact h;have:=c i h
  rw[l i (cd _) aa] at this
  cases this
 exact⟨by rw[this],g.ext⟩
theorem Px (w:World) (F:Nat→Prop) (A:Option Addr) (n c:Nat) (rows:List bQ) (f:Rd bS w F A n c (iB rows)) (g h:Nat) (off:Int) (l:w.cell? ⟨g,0,none⟩=some (.slice A n c)) (m:w.cell? ⟨h,0,none⟩=some (.int .i64 off)) (i:Nat) (hi:i<n):
 Calls prog 351 (([]:List Value)++[Value.int .i64 (i:Int)]++[Value.pointer (some ⟨g,0,none⟩),Value.pointer (some ⟨h,0,none⟩)]).toArray w (λe o=>e= .returned (.bool (decide (off<(fj rows (i+1):Int))))∧Ext [] w o):=by
 have p:=f.len
 rw[oB] at p
 obtain⟨bX,t,_,r⟩:=f.at_ (sx (rows:=rows) (k:=i) aa);refine aW func351 ntmps351 ?_;refine al ?_;refine bG [0,1,2,3,4,5,6] 0 [[]] ?_;refine aL rfl (λd a=>(ba ib rfl rfl (λj b=>by subst b;exact a.ct l av) aG)) ?_;refine aq ?_;refine aL rfl (λd a=>(bD (q:=i) dJ rfl rfl rfl bz aa aa aG)) ?_;refine aL rfl (λd a=>(ba bM rfl rfl (λj b=>by subst b;exact a.ct (r 0 _ rfl) av) aG)) ?_;refine aL rfl (λd a=>(ba bM rfl rfl (λj b=>by subst b;exact a.ct m av) aG)) ?_;refine aC ?_;intro u s;exact⟨rfl,s.ext⟩
def FW (rows:List bQ) (off:Int) (k:Nat):Prop:=k≤rows.length∧(∀j,j<k→(fj rows (j+1):Int)≤off)∧(k<rows.length→off<(fj rows (k+1):Int))
theorem FX (rows:List bQ) (off:Int): ∃k,FW rows off k:=by
 have: ∀m,m≤rows.length→ ∃k,k≤m∧(∀j,j<k→(fj rows (j+1):Int)≤off)∧(k<m→off<(fj rows (k+1):Int)):=by
  intro m;induction m with
  | zero=>exact λ_=>⟨0,cd _,by simp,by simp⟩
  | succ m c=>
   intro g;obtain⟨k,i,a,d⟩:=c aa;by_cases b:k<m
   exact⟨k,aa,a,λ_=>d b⟩;have b:k=m:=by omega
   subst b;by_cases e:off<(fj rows (k+1):Int)
   exact⟨k,aa,a,λ_=>e⟩;refine⟨k+1,cd _,λj l=>?_,λh=>by omega⟩;by_cases f:j=k
   subst f;omega
   exact a j aa
 exact this rows.length (cd _)
noncomputable def oC (rows:List bQ) (off:Int):Nat:=Classical.choose (FX rows off)
theorem FY (rows:List bQ) (off:Int):FW rows off (oC rows off):=Classical.choose_spec (FX rows off)
noncomputable def jP (rows:List bQ) (off:Int):bl:=
 if rows.length=0 then ⟨0,0⟩ else if oC rows (max 0 off)=rows.length then ⟨((rows.length - 1 :Nat):Int),min (max 0 off) (fj rows rows.length:Int) - (fj rows (rows.length - 1):Int)⟩
 else ⟨(oC rows (max 0 off):Int),max 0 off - (fj rows (oC rows (max 0 off)):Int)⟩
theorem sy (w:World) (F:Nat→Prop) (A:Option Addr) (n c:Nat) (rows:List bQ) (g:Rd bS w F A n c (iB rows)) (off:Int) (L: -9223372036854775808≤off∧off≤9223372036854775807) (p:n≤1000000) (M:d4 rows≤1000000):
 Calls prog 270 [.slice A n c,.int .i64 off].toArray w (λe w'=>e= .returned (.agg (jP rows off).enc.toArray)∧Ext [] w w'):=by
 have s:=g.len
 rw[oB] at s
 refine aW func270 ntmps270 ?_;refine ah ?_;intro t N O;refine aq ?_;intro u P Q;refine aq ?_;intro R S T;refine aR ?_;refine aj (λB=>?_) (λB=>?_);refine aJ ?_;intro v l;exact⟨by rw[jP,ax aa];rfl,l.ext⟩;refine b5 ?_;have x:=FY rows (max 0 off)
 generalize y:oC rows (max 0 off)=k at x
 obtain⟨U,aH,C⟩:=x;have D:k≤n:=by omega
 refine ao rfl zR rfl (λw' m=>Pw w' n k 351 [.pointer (some ⟨t,0,none⟩),.pointer (some ⟨u,0,none⟩)] (λi=>decide (max 0 off<(fj rows (i+1):Int))) p Of (λE G i hi=>?_) (λi j V z hi=>?_) D (λj z=>?_) (λW=>?_)) ?_;have r:=m.keep G
 exact Px E F A n c rows (g.ext r.ext av) t u (max 0 off) (r.eM (o:=0) (Has.tail (Has.tail Has.head)) rfl) (r.eM (o:=0) (Has.tail Has.head) rfl) i hi;have:=xd (rows:=rows) (j:=i+1) (k:=j+1) aa
 simp only[e3] at hi ⊢
 omega
 have:=aH j z
 simp only[e2];omega
 have:=C aa
 simpa using this
 refine bw ?_;refine aj (λH=>?_) (λH=>?_);have I:k=n:=by omega
 subst I;obtain⟨bX,X,_,J⟩:=g.at_ (sx (rows:=rows) (k:=k - 1) aa);have K:=pS rows (k - 1)
 have Y:=pS rows k
 refine aC ?_;refine bG [0,1,2,3,4,5] 1 [[(6,true,[])]] ?_;refine aL rfl (λd a=>(ba bM rfl rfl (λf b=>by subst b;exact (a.eM (o:=0) (Has.tail Has.head) rfl)) aG)) ?_;refine aL rfl (λd a=>(ba ib rfl rfl (λf b=>by subst b;exact (a.eM (o:=0) (Has.tail (Has.tail Has.head)) rfl)) aG)) ?_;refine aq ?_;refine aL rfl (λd a=>(bD (q:=k - 1) dJ rfl rfl rfl bz aa aa aG)) ?_;refine aL rfl (λd a=>(ba bM rfl rfl (λf b=>by subst b;exact (a.ct (J 0 _ rfl) av)) aG)) ?_;refine aJ ?_;rw[show (k:Int) - 1=((k - 1 :Nat):Int) by omega,show k - 1+1=k by omega];refine bG [0,1,2,3] 4 [[(4,false,[]),(5,false,[]),(6,false,[]),(7,true,[])]] ?_;refine aq ?_;refine aL rfl (λd a=>(ba bM rfl rfl (λf b=>by subst b;exact (a.eM (o:=0) (Has.tail Has.head) rfl)) aG)) ?_;refine aL rfl (λd a=>(ba ib rfl rfl (λf b=>by subst b;exact (a.eM (o:=0) (Has.tail (Has.tail Has.head)) rfl)) aG)) ?_;refine ah ?_;refine ao rfl zU rfl (λw' m=>uG w' F A k c rows (g.ext m.ext av) (k - 1) aa p) ?_;refine aK ?_;refine bY (λ_=>True) (λ_ h=> .inr ⟨.inr ⟨.inr h,dj⟩,dj⟩) (λ_ h=>aU) ?_;refine aJ ?_;intro v l;refine⟨?_,l.ext⟩;rw[jP,ag aa,y,s,ax rfl];rfl
 have K:=pS rows k
 refine ah ?_;refine bG [0,1,2,3] 4 [[(4,false,[]),(5,false,[]),(6,false,[]),(7,true,[])]] ?_;refine aq ?_;refine aL rfl (λd a=>(ba bM rfl rfl (λf b=>by subst b;exact (a.eM (o:=0) (Has.tail Has.head) rfl)) aG)) ?_;refine aL rfl (λd a=>(ba ib rfl rfl (λf b=>by subst b;exact (a.eM (o:=0) (Has.tail (Has.tail Has.head)) rfl)) aG)) ?_;refine ah ?_;refine ao rfl zU rfl (λw' m=>uG w' F A n c rows (g.ext m.ext av) k aa p) ?_;refine aK ?_;refine bY (λ_=>True) (λ_ h=> .inr ⟨.inr ⟨.inr h,dj⟩,dj⟩) (λ_ h=>aU) ?_;refine aJ ?_;intro v l;refine⟨?_,l.ext⟩;rw[jP,ag aa,y,ag aa];rfl
end
end Go.Proofs.YtkeokgcdnfjaaaaGreatDoor.Mq
namespace Go.Proofs.YtkeokgcdnfjaaaaGreatDoor.Mq
open Go Go.RowKit Go.Proofs
theorem Py (rows:List bQ): (qY rows).length≤d4 rows:=by
 rw[qY,Aj,dn,hG];have:=xa rows
 omega
theorem ep.hA {w:World} {F:Nat→Prop} {A:Option Addr} {n c:Nat} {rows:List bQ} (h:ep w F A n c rows):ep w (λk=>F k∧k<w.heap.size) A n c rows:=by
 obtain⟨eN,a,b,d⟩:=h.hs;exact⟨eN,a.hA a1,b,λk r row e f=>(d k r row e f).hA a1⟩
theorem Pz (rows:List bQ) (p:bl):0≤jw rows p∧jw rows p≤(d4 rows:Int):=by
 unfold jw;split
 omega
 split
 have:=pS rows rows.length;omega
 have a:=pS rows (p.row.toNat+1)
 have b:=xd (rows:=rows) (j:=p.row.toNat) (k:=p.row.toNat+1) aa
 omega
end Go.Proofs.YtkeokgcdnfjaaaaGreatDoor.Mq
namespace Go.Proofs.YtkeokgcdnfjaaaaGreatDoor.Mq
open Go Go.RowKit Go.Proofs Tryz
def oD (r:Int):Bool:=decide (0≤r) && decide (r≤1114111) && !(decide (55296≤r) && decide (r≤57343))
def fZ (r k:Nat):UInt8:=UInt8.ofNat (128 ||| ((r/2 ^ (6*k))%256 &&& 63))
def fM (r:Int):List UInt8:=
 if oD r=true then
  if r<128 then [UInt8.ofNat r.toNat] else
  if r<2048 then [UInt8.ofNat (192 ||| (r.toNat/64)%256),fZ r.toNat 0] else
  if r<65536 then [UInt8.ofNat (224 ||| (r.toNat/4096)%256),fZ r.toNat 1,fZ r.toNat 0] else
  [UInt8.ofNat (240 ||| (r.toNat/262144)%256),fZ r.toNat 2,fZ r.toNat 1,fZ r.toNat 0]
 else []
theorem As (r:Int): (fM r).length≤4:=by
 unfold fM;repeat' split
 all_goals simp
def oE (c:bh):List UInt8:=if c.half=2 then [] else if c.r=0 then [32] else fM c.r++c.more
def k9 (rows:List bQ) (k:Nat):List bh:=((rows[k]?).map (·.1)).getD []
def fN (fr:bl) (k:Nat):Int:=if (k:Int)=fr.row then max 0 fr.dm else 0
def gQ (to:bl) (k len:Nat):Int:=if (k:Int)=to.row then min (len:Int) to.dm else (len:Int)
def fH (p q:bl):Bool:=decide (p.row<q.row∨p.row=q.row∧p.dm<q.dm)
def k_ (c:bh):Bool:=decide (c.r≠0) && decide (c.half≠3)
def q0 (L:List bh) (a:Nat):Nat→Option Nat
 | 0=>none
 | k+1=>if k<a then none else if ((L[k]?).map k_).getD false=true then some (k+1) else q0 L a k
def lK (rows:List bQ) (fr to:bl) (l0:Nat):Nat→bl
 | 0=>⟨0,0⟩
 | k+1=>if k<l0 then ⟨0,0⟩ else match q0 (k9 rows k) (fN fr k).toNat (gQ to k (k9 rows k).length).toNat with
  | some x=>⟨(k:Int),(x:Int)⟩
  | none=>lK rows fr to l0 k
def q1 (row:Nat) (en:bl) (x:Nat) (c:bh):List UInt8:=if c.half≠3∧fH ⟨(row:Int),(x:Int)⟩ en=true then oE c else []
def ie (L:List bh) (row:Nat) (en:bl) (a:Nat):Nat→List UInt8
 | 0=>[]
 | k+1=>ie L row en a k++(if k<a then [] else match L[k]? with
  | some c=>q1 row en k c
  | none=>[])
def jd (rows:List bQ) (fr to en:bl) (l0:Nat):Nat→List UInt8
 | 0=>[]
 | k+1=>jd rows fr to en l0 k++(if k<l0 then [] else ie (k9 rows k) k en (fN fr k).toNat (gQ to k (k9 rows k).length).toNat)
def ig (rows:List bQ) (fr to:bl) (a:Int × Int):List UInt8:=
 if max a.1 fr.row<a.2∧max a.1 fr.row≤to.row then
  jd rows fr to (lK rows fr to (max a.1 fr.row).toNat (if to.row<rows.length∧to.row+1<a.2 then to.row+1 else a.2).toNat) (max a.1 fr.row).toNat (if to.row<rows.length∧to.row+1<a.2 then to.row+1 else a.2).toNat++
   (if (if to.row<rows.length∧to.row+1<a.2 then to.row+1 else a.2) - 1<to.row then [10] else [])
 else []
def uH (fr:bl):bl:=if fr.row<0 then ⟨0,0⟩ else fr
def jx (rows:List bQ) (fr to:bl):List UInt8:=if fH (uH fr) to=true then (ks rows rows.length).flatMap (ig rows (uH fr) to) else []
theorem xe (L:List bh) (row:Nat) (en:bl) (a:Nat): ∀k,k≤a→ie L row en a k=[]
 | 0,_=>rfl
 | k+1,h=>by rw[ie,xe L row en a k aa,ax aa];rfl
theorem At (rows:List bQ) (fr to en:bl) (l0:Nat): ∀k,k≤l0→jd rows fr to en l0 k=[]
 | 0,_=>rfl
 | k+1,h=>by rw[jd,At rows fr to en l0 k aa,ax aa];rfl
theorem PA (rows:List bQ) (fr to:bl) (l0:Nat): ∀k,k≤l0→lK rows fr to l0 k=⟨0,0⟩
 | 0,_=>rfl
 | k+1,h=>by rw[lK,ax aa]
theorem FZ {rows:List bQ} {n:Nat}: ∀(L:List (Int × Int)) (a:Nat),sw rows n a L→ ∀b∈L,∃s e:Nat,b=((s:Int),(e:Int))∧s<e∧e≤n
 | [],_,_,b,h=>by cases h
 | p::L,a,h,b,c=>by
  obtain⟨e,d,f,g,_,_,i⟩:=Ar h;rcases eD.1 c with rfl | c
  exact⟨a,e,d,f,g⟩;exact FZ L e i b c
theorem PB (w:World) (r:Int):Calls prog 347 [.int .i32 r].toArray w (λe w'=>e= .returned (.bool (oD r))∧Ext [] w w'):=by
 refine aW func347 ntmps347 ?_;refine aR ?_;refine aV 5 rfl (λb=>?_) (λb=>?_);have g:=aY b
 refine al ?_;refine aV 9 rfl (λc=>?_) (λc=>?_);have i:=aY c
 refine al ?_;refine aV 12 rfl (λd=>?_) (λd=>?_);have j:=aY d
 refine aR ?_;intro f a;refine⟨?_,a.ext⟩;unfold oD;rw[b1 (show 0≤r by omega),b1 (show r≤1114111 by omega),cm (show ¬55296≤r by omega)];rfl
 have j:=a8 d
 refine bw ?_;intro f a;refine⟨?_,a.ext⟩;unfold oD;rw[b1 (show 0≤r by omega),b1 (show r≤1114111 by omega),b1 (show 55296≤r by omega)];by_cases h:r≤57343
 rw[b1 h,cm (show ¬57343<r by omega)];rfl
 rw[cm h,b1 (show 57343<r by omega)];rfl
 have i:=a8 c
 refine bw ?_;intro f a;refine⟨?_,a.ext⟩;unfold oD;rw[b1 (show 0≤r by omega),cm (show ¬r≤1114111 by omega)];rfl
 have g:=a8 b
 refine dB ?_;intro f a;refine⟨?_,a.ext⟩;unfold oD;rw[cm (show ¬0≤r by omega)];rfl
theorem PC (x k:Nat): (128 ||| (x/2 ^ (6*k)%256 &&& 63))<256:=by
 refine oa (n:=8) a1 ?_;have:= @Nat.and_le_right (x/2 ^ (6*k)%256) 63
 omega
theorem sA (w:World) (g x k:Nat) (h:x≤1114111) (i:k≤2) (a:w.cell? ⟨g,0,none⟩=some (.int .i32 (x:Int))):
 Calls prog 346 [.int .i64 (k:Int),.pointer (some ⟨g,0,none⟩)].toArray w (λe w'=>e= .returned (.int .u8 ((fZ x k).toNat:Int))∧Ext [] w w'):=by
 have b:=PC x k
 have j:= @Nat.and_le_right (x/2 ^ (6*k)%256) 63
 have c:x/2 ^ (6*k)%256<256:=iw _ a1
 have l:x/2 ^ (6*k)≤x:=Nat.div_le_self _ _
 refine aW func346 ntmps346 ?_;refine aC ?_;refine ba jt rfl rfl (λw' d=>d.ct a av) ?_;refine aq ?_;refine kV (r:=((6*k:Nat):Int)) rfl rfl rfl (by rw[wrap64 aa aa];omega) ?_;refine pM (r:=((x/2 ^ (6*k):Nat):Int)) rfl rfl rfl aa (by rcases (show k=0∨k=1∨k=2 by omega) with rfl | rfl | rfl <;> rfl) ?_;refine dl (r:=((x/2 ^ (6*k)%256 :Nat):Int)) rfl rfl underlying21 underlying5 (by rw[IntKind.wrap_u8];omega) ?_;refine qV (r:=((x/2 ^ (6*k)%256 &&& 63 :Nat):Int)) rfl rfl rfl (and_eq (m:=x/2 ^ (6*k)%256) (n:=63) rfl rfl c a1 (nh aa aa)) ?_;refine mz (r:=((128 ||| (x/2 ^ (6*k)%256 &&& 63):Nat):Int)) rfl rfl rfl (or_eq (m:=128) (n:=x/2 ^ (6*k)%256 &&& 63) rfl rfl a1 (by simp only[IntKind.bits];omega) (nh aa aa)) ?_;refine ay ?_;intro o f;refine⟨?_,f.ext⟩;rw[fZ,qG,Nat.mod_eq_of_lt b]
theorem sB:ad prog 346:=ad.of func346 ab ab
theorem PD (x:Nat): (x:Int)/2 ^ min (12 :Int).toNat IntKind.i32.bits=((x/4096 :Nat):Int):=by
 have e: (2 :Int) ^ min (12 :Int).toNat IntKind.i32.bits=4096:=by decide
 rw[e];omega
theorem PE (x:Nat): (x:Int)/2 ^ min (18 :Int).toNat IntKind.i32.bits=((x/262144 :Nat):Int):=by
 have e: (2 :Int) ^ min (18 :Int).toNat IntKind.i32.bits=262144:=by decide
 rw[e];omega
theorem Au {a m:Nat} (b:a<256) (c:m<256):IntKind.u8.wrap ((BitVec.ofInt IntKind.u8.bits (a:Int) ||| BitVec.ofInt IntKind.u8.bits (m:Int)).toNat:Int)=((UInt8.ofNat (a ||| m)).toNat:Int):=by
 have h:=oa (n:=8) b c
 refine or_eq (m:=a) (n:=m) rfl rfl b c ?_;rw[nh aa aa,qG,Nat.mod_eq_of_lt h]
theorem F0 (w:World) (r:Int):Calls prog 264 [.int .i32 r].toArray w (λe w'=>e= .returned (.string (bs (fM r)))∧Ext [] w w'):=by
 refine aW func264 ntmps264 ?_;refine ah ?_;intro c F G;refine b5 ?_;refine ao rfl Ob rfl (λw' _=>PB w' r) ?_;refine aS ?_;refine b2 rfl (λo=>?_) (λo=>?_);have i:oD r=false:=by simpa using o
 refine aJ ?_;intro k d;exact⟨by rw[fM,ag (by rw[i];decide)] <;> rfl,d.ext⟩;have i:oD r=true:=by simpa using o
 have C:=i
 unfold oD at C
 rw[dY,dY,e3,e3] at C
 obtain⟨x,rfl⟩ : ∃x:Nat,r=(x:Int):=⟨r.toNat,aa⟩;have j:x≤1114111:=by omega
 have D: ((x:Int)).toNat=x:=rfl
 have H: ∀l,fM (x:Int)=l→bs (fM (x:Int))=bs l:=λl h=>by rw[h]
 refine aC ?_;refine aj (λp=>?_) (λp=>?_);refine ah ?_;refine dl (r:=((UInt8.ofNat x).toNat:Int)) rfl rfl underlying21 underlying5 (by rw[IntKind.wrap_u8,qG];omega) ?_;refine aq ?_;intro I J K;refine i_ (s:=[UInt8.ofNat x]) underlying62 underlying5 underlying9 rfl rfl (λw' b=>Rd.hf (E:=cy) (L:=[UInt8.ofNat x]) b Has.head rfl a1) ?_;refine aC ?_;intro k d;exact⟨by rw[fM,ax i,ax p] <;> rfl,d.ext⟩;have t: ¬(x:Int)<128:=p
 refine aC ?_;refine aj (λu=>?_) (λu=>?_);have n: (x:Int)<2048:=u
 refine aq ?_;refine ew [0,1,2,3,4] 3 [[(5,false,[]),(6,false,[]),(7,false,[8])]] (pJ [aD c [.int .i32 (x:Int)] 21]) mixed ab (λ_ d=>d.drew) (λ_ h=>h.aF) ?_;refine aq ?_;refine aL rfl (λf g=>(pM (r:=((x/64 :Nat):Int)) rfl rfl rfl a1 rfl aG)) ?_;refine aL rfl (λf g=>(dl (r:=((x/64%256 :Nat):Int)) rfl rfl underlying21 underlying5 (by rw[IntKind.wrap_u8];omega) aG)) ?_;refine aL rfl (λf g=>(mz (r:=((UInt8.ofNat (192 ||| x/64%256)).toNat:Int)) rfl rfl rfl (Au (a:=192) (m:=x/64%256) a1 aa) aG)) ?_;refine ah ?_;refine gK (first:=[]) (cap:=[.pointer (some ⟨c,0,none⟩)]) (v:= .int .u8 ((fZ x 0).toNat:Int)) rfl rfl sB rfl (λw' b=>sA w' c x 0 j a1 (b.eM aQ rfl)) ?_;refine bY (λ_=>True) (λ_ h=> .inr h.aF) (λ_ h=>aU) ?_;refine ah ?_;intro M N O;refine bY (λ_=>True) (λ_ h=> .inr ⟨.inr ((h.rem bv.head).aF),aU⟩) (λ_ h=>aU) ?_;refine ar ?_;refine i_ (s:=[UInt8.ofNat (192 ||| x/64%256),fZ x 0]) underlying62 underlying5 underlying9 rfl rfl (λw' b=>Rd.hf (E:=cy) (L:=[UInt8.ofNat (192 ||| x/64%256),fZ x 0]) b Has.head rfl a1) ?_;refine bY (λ_=>True) (λ_ h=> .inr ⟨.inr ⟨.inr ((h.rem bv.head).aF),aU⟩,aU⟩) (λ_ h=>aU) ?_;refine aK ?_;intro k d;exact⟨by rw[fM,ax i,ag t,ax n];rfl,d.ext⟩;have n: ¬(x:Int)<2048:=u
 refine aC ?_;refine aj (λy=>?_) (λy=>?_);have z: (x:Int)<65536:=y
 obtain⟨q,A,B⟩ : ∃q:Nat,q=x/4096∧(x:Int)/2 ^ min (12 :Int).toNat IntKind.i32.bits=(q:Int):=⟨_,rfl,PD x⟩;refine aq ?_;refine ew [0,1,2,3,4,6] 4 [[(5,false,[]),(7,false,[]),(8,false,[]),(9,false,[10])]] (pJ [aD c [.int .i32 (x:Int)] 21]) mixed ab (λ_ d=>d.drew) (λ_ h=>h.aF) ?_;refine aq ?_;refine aL rfl (λf g=>(pM (r:=(q:Int)) rfl rfl rfl a1 B aG)) ?_;refine aL rfl (λf g=>(dl (r:=((q%256 :Nat):Int)) rfl rfl underlying21 underlying5 (by rw[IntKind.wrap_u8];omega) aG)) ?_;refine aL rfl (λf g=>(mz (r:=((UInt8.ofNat (224 ||| q%256)).toNat:Int)) rfl rfl rfl (Au (a:=224) (m:=q%256) a1 aa) aG)) ?_;refine aS ?_;refine gK (first:=[]) (cap:=[.pointer (some ⟨c,0,none⟩)]) (v:= .int .u8 ((fZ x 1).toNat:Int)) rfl rfl sB rfl (λw' b=>sA w' c x 1 j a1 (b.eM aQ rfl)) ?_;refine bY (λ_=>True) (λ_ h=> .inr h.aF) (λ_ h=>aU) ?_;refine ar ?_;refine gK (first:=[]) (cap:=[.pointer (some ⟨c,0,none⟩)]) (v:= .int .u8 ((fZ x 0).toNat:Int)) rfl rfl sB rfl (λw' b=>sA w' c x 0 j a1 (b.eM aQ rfl)) ?_;refine bY (λ_=>True) (λ_ h=> .inr ⟨.inr h.aF,aU⟩) (λ_ h=>aU) ?_;refine ah ?_;intro P Q R;refine bY (λ_=>True) (λ_ h=> .inr ⟨.inr ⟨.inr ((h.rem bv.head).aF),aU⟩,aU⟩) (λ_ h=>aU) ?_;refine ar ?_;refine i_ (s:=[UInt8.ofNat (224 ||| q%256),fZ x 1,fZ x 0]) underlying62 underlying5 underlying9 rfl rfl (λw' b=>Rd.hf (E:=cy) (L:=[UInt8.ofNat (224 ||| q%256),fZ x 1,fZ x 0]) b Has.head rfl a1) ?_;refine bY (λ_=>True) (λ_ h=> .inr ⟨.inr ⟨.inr ⟨.inr ((h.rem bv.head).aF),aU⟩,aU⟩,aU⟩) (λ_ h=>aU) ?_;refine aK ?_;intro k d;exact⟨by rw[fM,ax i,ag t,ag n,ax z,D,←A] <;> rfl,d.ext⟩;have z: ¬(x:Int)<65536:=y
 obtain⟨q,A,B⟩ : ∃q:Nat,q=x/262144∧(x:Int)/2 ^ min (18 :Int).toNat IntKind.i32.bits=(q:Int):=⟨_,rfl,PE x⟩;refine aS ?_;refine ew [0,1,2,3,4,6,8] 5 [[(5,false,[]),(7,false,[]),(9,false,[]),(10,false,[]),(11,false,[12])]] (pJ [aD c [.int .i32 (x:Int)] 21]) mixed ab (λ_ d=>d.drew) (λ_ h=>h.aF) ?_;refine aq ?_;refine aL rfl (λf g=>(pM (r:=(q:Int)) rfl rfl rfl a1 B aG)) ?_;refine aL rfl (λf g=>(dl (r:=((q%256 :Nat):Int)) rfl rfl underlying21 underlying5 (by rw[IntKind.wrap_u8];omega) aG)) ?_;refine aL rfl (λf g=>(mz (r:=((UInt8.ofNat (240 ||| q%256)).toNat:Int)) rfl rfl rfl (Au (a:=240) (m:=q%256) a1 aa) aG)) ?_;refine ay ?_;refine gK (first:=[]) (cap:=[.pointer (some ⟨c,0,none⟩)]) (v:= .int .u8 ((fZ x 2).toNat:Int)) rfl rfl sB rfl (λw' b=>sA w' c x 2 j a1 (b.eM aQ rfl)) ?_;refine bY (λ_=>True) (λ_ h=> .inr h.aF) (λ_ h=>aU) ?_;refine ar ?_;refine gK (first:=[]) (cap:=[.pointer (some ⟨c,0,none⟩)]) (v:= .int .u8 ((fZ x 1).toNat:Int)) rfl rfl sB rfl (λw' b=>sA w' c x 1 j a1 (b.eM aQ rfl)) ?_;refine bY (λ_=>True) (λ_ h=> .inr ⟨.inr h.aF,aU⟩) (λ_ h=>aU) ?_;refine ar ?_;refine gK (first:=[]) (cap:=[.pointer (some ⟨c,0,none⟩)]) (v:= .int .u8 ((fZ x 0).toNat:Int)) rfl rfl sB rfl (λw' b=>sA w' c x 0 j a1 (b.eM aQ rfl)) ?_;refine bY (λ_=>True) (λ_ h=> .inr ⟨.inr ⟨.inr h.aF,aU⟩,aU⟩) (λ_ h=>aU) ?_;refine ah ?_;intro S T U;refine bY (λ_=>True) (λ_ h=> .inr ⟨.inr ⟨.inr ⟨.inr ((h.rem bv.head).aF),aU⟩,aU⟩,aU⟩) (λ_ h=>aU) ?_;refine ar ?_;refine i_ (s:=[UInt8.ofNat (240 ||| q%256),fZ x 2,fZ x 1,fZ x 0]) underlying62 underlying5 underlying9 rfl rfl (λw' b=>Rd.hf (E:=cy) (L:=[UInt8.ofNat (240 ||| q%256),fZ x 2,fZ x 1,fZ x 0]) b Has.head rfl a1) ?_;refine bY (λ_=>True) (λ_ h=> .inr ⟨.inr ⟨.inr ⟨.inr ⟨.inr ((h.rem bv.head).aF),aU⟩,aU⟩,aU⟩,aU⟩) (λ_ h=>aU) ?_;refine al ?_;intro k d;exact⟨by rw[fM,ax i,ag t,ag n,ag z,D,←A] <;> rfl,d.ext⟩
theorem PF (w:World) (c:bh) (i:c.more.length≤1000000):Calls prog 185 [.agg c.enc.toArray].toArray w (λe w'=>e= .returned (.string (bs (oE c)))∧Ext [] w w'):=by
 have j:=As c.r
 refine aW func185 ntmps185 ?_;refine ah ?_;intro g k l;refine bH ?_;refine aj (λb=>?_) (λb=>?_);refine aJ ?_;intro f a;exact⟨by rw[oE,ax b] <;> rfl,a.ext⟩;refine aK ?_;refine aj (λd=>?_) (λd=>?_);refine aJ ?_;intro f a;exact⟨by rw[oE,ag b,ax d] <;> rfl,a.ext⟩;refine aS ?_;refine ew [0,1,3,4] 1 [[(2,false,[5,6])]] (pJ [aD g c.enc 282]) mixed ab (λ_ a=>a.drew) (λ_ h=>h.aF) ?_;refine al ?_;refine ao rfl EI rfl (λw' _=>F0 w' c.r) ?_;refine bY (λ_=>True) (λ_ h=> .inr h.aF) (λ_ h=>aU) ?_;refine aL rfl (λm n=>(eE rfl rfl rfl aa aG)) ?_;refine al ?_;intro f a;exact⟨by rw[oE,ag b,ag d],a.ext⟩
end Go.Proofs.YtkeokgcdnfjaaaaGreatDoor.Mq
namespace Go.Proofs.YtkeokgcdnfjaaaaGreatDoor.Mq
open Go Go.RowKit Go.Proofs
section
section
variable {b:World} {S:List Nat} {cs cs':List Chunk} {w:World}
theorem af.Av {l:List Chunk} {k:Nat} {c c':Chunk} (h:af b S (c'::aT l::cs) w) (a:l[k]? = some c):af b S (aT (l.set k c')::cs) w:=by
 have d:=(cU.1 a).1
 have f:=(cU.1 a).2
 have g:l=l.take k++c::l.drop (k+1):=by
  conv=>lhs;rw[←iT k l]
  rw[kR d,f]
 have i:l.set k c'=l.take k++c'::l.drop (k+1):=by rw[qz,ax d]
 have j:af b S (aT l::c'::cs) w:=h.perm (List.Perm.swap _ _ _)
 have e:=j.k4
 rw[g] at e
 have m:af b S (c::(l.take k++c'::l.drop (k+1))++cs) w:=e.perm (by
  simp only[e0,mi];refine List.perm_middle.trans (List.Perm.cons _ ?_);refine List.Perm.append_left _ ?_;exact (n_).trans (List.Perm.refl _))
 rw[i];exact (m.rem bv.head).close'
theorem af.F1 {l l':List Chunk} (h:af b S (aT l::cs) w) (ai:List.Perm l l'):af b S (aT l'::cs) w:=(h.k4.perm (ai.append_right _)).close'
theorem af.PG {l l' r:List Chunk} (h:af b S (aT l::cs) w) (ai:List.Perm l (r++l')):af b S (aT l'::cs) w:=by
 have a:=h.k4.perm (ai.append_right cs)
 rw[e0] at a
 exact (af.drop _ r a).close'
end
structure bR where
 A:Option Addr
 c:Nat
 cont:Bool
 cells:List bh
abbrev bR.val (r:bR):Value:= .slice r.A r.cells.length r.c
abbrev bR.enc (r:bR):List Value:=[.slice r.A r.cells.length r.c,.bool r.cont]
def cf:bA bR:=⟨bR.enc,2,λ_=>rfl,λ_=>aI.cons rfl (aI.cons rfl aI.nil)⟩
abbrev bR.fk (r:bR):bQ:=(r.cells,r.cont)
abbrev bR.uI (r:bR):pQ:=⟨r.A,r.cells.length,r.c,r.cont⟩
abbrev dL (v:Value) (L:List bh):Chunk:=own 282 8 v L.length (bJ.all L)
abbrev bR.aF (r:bR):Chunk:=dL r.val r.cells
abbrev bW (eN:List bR):List bQ:=eN.map bR.fk
abbrev je:bR:=⟨none,0,false,[]⟩
structure db where
 A:Option Addr
 c:Nat
 l:List bR
abbrev db.val (r:db):Value:= .slice r.A r.l.length r.c
abbrev db.au (r:db):Chunk:=own 157 2 r.val r.l.length (cf.all r.l)
abbrev db.cc (r:db):Chunk:=aT (r.l.map bR.aF)
theorem F2 (eN:List bR):cf.all eN=k7.all (eN.map bR.uI):=by
 induction eN with
 | nil=>rfl
 | cons r eN a=>
  show cf.enc r++cf.all eN=k7.enc r.uI++k7.all (eN.map bR.uI)
  rw[a];rfl
theorem uJ {w:World} {v:Value} {L:List bh} (h: (dL v L).pred w): ∃A c,v= .slice A L.length c∧Rd bJ w (λk=>v.ownBlock=some k) A L.length c L:=
 Rd.fX (E:=bJ) (show w.ownsRow 0 282 bJ.sz v L.length (bJ.all L) from h) rfl
theorem sC {w:World} {r:db} (f:r.au.pred w) (h:r.cc.pred w):ep w (λ_=>True) r.A r.l.length r.c (bW r.l):=by
 have i:w.ownsRow 0 157 k7.sz r.val r.l.length (k7.all (r.l.map bR.uI)):=by
  have:w.ownsRow 0 157 2 r.val r.l.length (cf.all r.l):=f
  rw[F2] at this;exact this
 obtain⟨A,c,j,m⟩:=Rd.fX (E:=k7) i av;injection j with n v o
 subst n o;refine⟨_,m.dC (λ_ _=>aU),by simp,λk x row a b=>?_⟩;rw[eJ] at a b
 cases e:r.l[k]? with
 | none=>rw[e] at a;cases a
 | some g=>
  rw[e] at a b
  cases a;cases b
  have p:=h g.aF (dF.2 ⟨g,c8 e,rfl⟩)
  obtain⟨y,d,q,s⟩:=uJ p;injection q with t z u
  subst t u;exact s.dC (λ_ _=>aU)
structure ed where
 kind:Int
 at_:Int
 n:Int
abbrev ed.enc (s:ed):List Value:=[.int .i64 s.kind,.int .i64 s.at_,.int .i64 s.n]
def jQ:bA ed:=⟨ed.enc,3,λ_=>rfl,λ_=>aI.cons rfl (aI.cons rfl (aI.cons rfl aI.nil))⟩
structure lL where
 A:Option Addr
 c:Nat
 l:List ed
abbrev lL.val (r:lL):Value:= .slice r.A r.l.length r.c
abbrev lL.au (r:lL):Chunk:=own 179 3 r.val r.l.length (jQ.all r.l)
structure dh where
 g:Nat
 s:db
 room:Int
 first:Int
 n:Int
 gone:Int
abbrev Aw (r:dh):List Value:=[r.s.val,.int .i64 r.room,.int .i64 r.first,.int .i64 r.n,.int .u64 r.gone]
abbrev dh.an (r:dh):Chunk:=aD r.g (Aw r) 203
abbrev b9 (r:dh):List Chunk:=[r.an,r.s.au,r.s.cc]
def eq (r:dh) (i:Int):Int:=if (r.s.l.length:Int)≤i+r.first then i+r.first - r.s.l.length else i+r.first
structure cV (r:dh):Prop where
 len: (r.s.l.length:Int)≤r.room
 room:0≤r.room∧r.room≤100000
 n:0≤r.n∧r.n≤r.s.l.length
 first:0≤r.first∧(r.first<r.s.l.length∨r.first=0)
 gone:0≤r.gone∧r.gone<18446744073709551616
def dh.rows (r:dh):List bQ:=(List.range r.n.toNat).map (λ(i:Nat)=>(((r.s.l[(eq r i).toNat]?).map bR.fk).getD ([],false)))
structure bq where
 g:Nat
 r:dh
 s:db
 cols:Int
 be:lL
abbrev nq (p:bq):List Value:=[.pointer (some ⟨p.r.g,0,none⟩),p.s.val,.int .i64 p.cols,p.be.val]
abbrev bq.an (p:bq):Chunk:=aD p.g (nq p) 117
abbrev bB (p:bq):List Chunk:=[p.an,aT (b9 p.r),p.s.au,p.s.cc,p.be.au]
abbrev ptr (g:Nat):Value:= .pointer (some ⟨g,0,none⟩)
end
end Go.Proofs.YtkeokgcdnfjaaaaGreatDoor.Mq
namespace Go.Proofs.YtkeokgcdnfjaaaaGreatDoor.Mq
open Go Go.RowKit Go.Proofs Tryz
theorem af.bV {b w:World} {S:List Nat} {cs:List Chunk} (h:af b S cs w) {g o:Nat} {xs:List Value} {t:TypeId} {v:Value} (a: (aD g xs t).pred b) (c:g∉S) (d:xs[o]? = some v):w.cell? ⟨g,o,none⟩=some v:=by
 refine h.ct ?_ c;have e:b.heap[g]? = some (.cells xs.toArray t (0,0)):=a
 rw[cell_of_row b g o xs.toArray t (0,0) e];simpa using d
theorem af.jy {b w:World} {S:List Nat} {cs:List Chunk} (h:af b S cs w) {g o sz:Nat} {xs vs:List Value} {t:TypeId} (c: (aD g xs t).pred b) (d:g∉S) (e: (xs.drop o).take sz=vs) (j:Nat) (u:Value) (a:vs[j]? = some u):w.cell? ((⟨g,o,none⟩ :Addr).add j)=some u:=by
 rw[Addr.add_lit];refine h.bV c d ?_;rw[←e,is] at a
 split at a
 simpa using a
 cases a
theorem dq {P:Program} {n:Nat} {ops:Array Oper} {Q:cl} {rest:List Oper} {l:Fr} {d:Nat} {ty:TypeId} {pos:String} {a6:Array Edge} {H:World→Prop} {x i:Operand} {t e len sz:Nat} {g o:Nat} {q:Nat} {k:IntKind} {j:Int} (a:P.underlying t=some (.array len e)) (b: (P.info? e).map (·.size)=some sz) (ak:Nat.blt d n=true) (c:a_ l x=some (.pointer (some ⟨g,o,none⟩))) (hi:a_ l i=some (.int k j))
 (f:j=(q:Int)) (m:q<len)
 (h:az P n ops Q rest ((d,.pointer (some ⟨g,o+q*sz,none⟩))::l) H):az P n ops Q (⟨some d,.indexAddr t x i,ty,pos,a6,none⟩::rest) l H:=
 qH a b ak c hi f m (by rw[Addr.add_lit];exact h)
abbrev Pure (v:Value) (w:World):Ending→World→Prop:=λe w'=>e= .returned v∧Ext [] w w'
theorem Ax (w:World) (r:dh) (a:r.an.pred w):Calls prog 95 [ptr r.g].toArray w (Pure (.int .i64 r.n) w):=by
 refine aW func95 ntmps95 ?_;refine hh ?_;refine ba bM rfl rfl (λd b=>b.bV a (by (simp;done)) rfl) ?_;refine ay ?_;intro e c;exact⟨rfl,c.ext⟩
theorem xf (w:World) (r:dh) (b:r.an.pred w) (i:Int) (hi:0≤i∧i≤1000000) (h:0≤r.first∧r.first≤1000000) (j: (r.s.l.length:Int)≤1000000):Calls prog 97 [ptr r.g,.int .i64 i].toArray w (Pure (.int .i64 (eq r i)) w):=by
 refine aW func97 ntmps97 ?_;refine bo ?_;refine ba bM rfl rfl (λd a=>a.bV b (by (simp;done)) rfl) ?_;refine bo ?_;refine ba wt rfl rfl (λd a=>a.bV b (by (simp;done)) rfl) ?_;refine aS ?_;refine aj (λe=>?_) (λe=>?_);refine ay ?_;refine ba wt rfl rfl (λd a=>a.bV b (by (simp;done)) rfl) ?_;refine bH ?_;intro f c;exact⟨by simp only[eq,Ending.returned.injEq,Value.int.injEq,true_and];omega,c.ext⟩;refine aR ?_;intro f c;exact⟨by simp only[eq,Ending.returned.injEq,Value.int.injEq,true_and];omega,c.ext⟩
theorem pU (w:World) (p:bq) (ai:p.an.pred w):Calls prog 16 [ptr p.g].toArray w (Pure (.int .i64 (p.s.l.length:Int)) w):=by
 refine aW func16 ntmps16 ?_;refine hh ?_;refine ba wt rfl rfl (λc a=>a.bV ai (by (simp;done)) rfl) ?_;refine al ?_;intro d b;exact⟨rfl,b.ext⟩
theorem Ay (w:World) (p:bq) (ai:p.an.pred w):Calls prog 255 [ptr p.g].toArray w (Pure (.int .i64 p.cols) w):=by
 refine aW func255 ntmps255 ?_;refine hh ?_;refine ba bM rfl rfl (λc a=>a.bV ai (by (simp;done)) rfl) ?_;refine ay ?_;intro d b;exact⟨rfl,b.ext⟩
theorem af.dD {b w:World} {S:List Nat} {cs:List Chunk} (h:af b S cs w) {c:Chunk} (a:c.pred b) (ak: ∀k∈c.ce,k∉S):c.pred w:=
 c.loc b w (λk d=>h.ext.block k (c.low b a k d) (ak k d)) a
theorem oF (w:World) (p:bq) (ai:p.an.pred w) (a:p.r.an.pred w):Calls prog 56 [ptr p.g].toArray w (Pure (.int .i64 p.r.n) w):=by
 refine aW func56 ntmps56 ?_;refine hh ?_;refine ba LJ rfl rfl (λf b=>b.bV ai (by (simp;done)) rfl) ?_;refine ao rfl zy rfl (λc d=>Ax c _ (d.dD a av)) ?_;refine ay ?_;intro h e;exact⟨rfl,e.ext⟩
theorem sD (w:World) (p:bq) (ai:p.an.pred w) (y:Int):Calls prog 314 [ptr p.g,.int .i64 y].toArray w (Pure (.bool (decide (0≤y∧y<p.s.l.length))) w):=by
 refine aW func314 ntmps314 ?_;refine aR ?_;refine aV 7 rfl (λa=>?_) (λa=>?_);have c:=aY a
 refine ay ?_;refine ao rfl pA rfl (λd e=>pU d _ (e.dD ai av)) ?_;refine aK ?_;intro f b;exact⟨by simp;omega,b.ext⟩;have c:=a8 a
 refine aR ?_;intro f b;exact⟨by simp;omega,b.ext⟩
end Go.Proofs.YtkeokgcdnfjaaaaGreatDoor.Mq
