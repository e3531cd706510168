/- part 11 of the proof -/
import Derived.Test.YtoghoobfpcadbaaGreatDoorQ10
import Derived.Laws.Shifts
namespace Go.Proofs.YtoghoobfpcadbaaGreatDoor.Mq
open Go Go.RowKit Go.Proofs Tryz
section
theorem PH {α:Type} (E:bx α) (a:α) (m:Nat):fa (E.enc a) m=E.all (List.replicate m a):=by
 induction m with
 | zero=>simp[fa,bx.all]
 | succ m b=>
  have: ∀(l:List α),E.all (a::l)=E.enc a++E.all l:=λl=>by simp[bx.all]
  rw[mv,this,fa,b]
theorem FY: ∀{rows:List bS} {row:bS},row∈rows→row.1.length≤eb rows
 | r::rows,row,h=>by
  have a:eb (r::rows)=r.1.length+eb rows:=by simp[eb]
  rcases eZ.1 h with rfl | h
  omega
  have:=FY h
  omega
def oF (l:List bj):Nat:=(l.filter (λc=>decide (c.half≠3))).length
def fm (rows:List bS) (k:Nat):Nat:=(cellsOf (rows.take k)).length
theorem PI {rows:List bS} {k:Nat} {row:bS} (h:rows[k]? = some row):fm rows (k+1)=fm rows k+oF row.1:=by
 rw[fm,kx h,FT,b8];rfl
theorem pZ (rows:List bS) (k:Nat):fm rows k≤eb rows:=fs (xl _) (At rows k)
theorem xo {rows:List bS} {j k:Nat} (h:j≤k):fm rows j≤fm rows k:=by
 have:rows.take k=rows.take j++(rows.take k).drop j:=by
  conv=>lhs;rw[←i7 j (rows.take k),List.take_take,iE h]
 rw[fm,fm,this];simp[cellsOf]
theorem PJ (l:List bj):oF l≤l.length:=List.length_filter_le _ _
theorem PK {l:List bj} {k:Nat} {x:bj} (a:l[k]? = some x):oF (l.take (k+1))=if x.half≠3 then oF (l.take k)+1 else oF (l.take k):=by
 unfold oF;rw[kx a,As];by_cases h:x.half=3 <;> simp[h]
theorem p0 (w:World) (F:Nat→Prop) (A:Option Addr) (n c:Nat) (l:List bj) (b:Bool) (h:Rd bJ w F A n c l) (s:n≤1000000):
 Calls prog 367 [.agg [.slice A n c,.bool b].toArray].toArray w (λe w'=>e= .returned (.int .i64 (oF l:Int))∧Ext [] w w'):=by
 have t:=h.len
 refine aW func367 ntmps367 ?_;refine ah ?_;intro v y z;refine e4 ?_;refine b1 (ι:=Nat) (λi=>[(3,.int .i64 (oF (l.take i):Int)),(7,.slice A n c),(8,.int .i64 (n:Int)),(9,.int .i64 (i:Int))]) (λ_=>af w [] []) (λi=>i≤n) (λi=>n - i) ?_ ?_;exact λw f=>⟨0,bP _,(cw rfl rfl rfl rfl),f.rem bv.head⟩
 rintro j k;have o:=PJ (l.take j)
 rw[dv] at o
 refine al ?_;refine aj (λp=>?_) (λp=>?_);obtain⟨x,m⟩ : ∃x,l[j]? = some x:=⟨l[j]'aa,bG _⟩;obtain⟨B,C,_,q⟩:=h.at_ m;have d:=PK m
 refine al ?_;refine bw dB rfl rfl rfl bA bb aa ?_;refine cy jU rfl rfl (rfl) (λw' a j u k=>a.ct (q j u k) av) ?_;refine ar ?_;intro D E G;refine aR ?_;refine aj (λg=>?_) (λg=>?_);refine bp ?_;rw[ay g] at d
 exact bg (j+1) aa aa (Sub.cons (by rw[d];rfl) bR) (λw' a=>a.rem bv.head);refine aD ?_;rw[ag g] at d
 exact bg (j+1) aa aa (Sub.cons (by rw[d];rfl) bR) (λw' a=>a.rem bv.head);refine bI ?_;intro H f;have r:j=n:=by omega
 subst r;exact⟨by rw[ez aa],f.ext⟩
def iK (rows:List bS):List Int:=(List.range rows.length).map (λk=>(fm rows (k+1):Int))
theorem oG (rows:List bS): (iK rows).length=rows.length:=by simp[iK]
theorem sG {rows:List bS} {k:Nat} (h:k<rows.length): (iK rows)[k]? = some (fm rows (k+1):Int):=by simp[iK,h]
theorem FZ (m:Nat):fa [.int .i64 0] m=bX.all (List.replicate m (0 :Int)):=PH bX (0 :Int) m
theorem F0 (w:World) (F:Nat→Prop) (A:Option Addr) (n c:Nat) (rows:List bS) (f:eu w F A n c rows) (G:n≤1000000) (H:eb rows≤1000000):
 Calls prog 283 [.slice A n c].toArray w (ik bX w (iK rows)):=by
 have t:=f.len
 refine aW func283 ntmps283 ?_;refine aJ ?_;refine se n dO rfl rfl rfl rfl (by simp only[maxLen];omega) aa (λg I J=>?_);refine aS ?_;rw[FZ];refine bI ?_;refine b1 (ι:=Nat) (λi=>[(3,.slice (some ⟨g,0,none⟩) n n),(4,.int .i64 (fm rows i:Int)),(10,.slice A n c),(11,.int .i64 (n:Int)),(12,.int .i64 (i:Int))]) (λi=>af w [] [own 3 1 (.slice (some ⟨g,0,none⟩) n n) n (bX.all ((iK rows).take i++List.replicate (n - i) 0))]) (λi=>i≤n) (λi=>n - i) ?_ ?_;exact λw b=>⟨0,bP _,(ea rfl rfl rfl rfl rfl),by simpa using b⟩
 rintro j h;refine al ?_;refine aj (λx=>?_) (λx=>?_);obtain⟨row,e⟩ : ∃row,rows[j]? = some row:=⟨rows[j]'aa,bG _⟩;obtain⟨b2,y,m,d,K,_,z,l⟩:=f.at_ e;have L:=PI e
 have M:=pZ rows (j+1)
 have N:=l.len
 have O:row.1.length≤eb rows:=FY (dc e)
 have B:=sG (rows:=rows) (k:=j) aa
 have p: ((iK rows).take j).length=j:=by rw[dv,oG];omega
 have C: ((iK rows).take j++List.replicate (n - j) (0 :Int))[j]? = some 0:=by
  rw[kY aa,p,m9,rU,ay aa]
 have r:=bX.py (j:=0) (a':=(fm rows (j+1):Int)) (v:= .int .i64 (fm rows (j+1):Int)) C aZ rfl
 rw[rY _ _ aa,p,m9,show n - j=(n - (j+1))+1 by omega,mv,mw,show j*bX.sz+0=j by simp[bX]] at r
 refine aD ?_;refine bw dM rfl rfl rfl bA bb aa ?_;refine cy gP rfl rfl (rfl) (λw' a j u h=>a.ct (z j u h) av) ?_;refine ar ?_;intro P Q R;refine aL ?_;refine ao rfl Oy rfl (λw' a=>p0 w' _ y m d row.1 row.2 (l.ext a.ext av) aa) ?_;refine aS ?_;rw[show (fm rows j:Int)+(oF row.1 :Int)=(fm rows (j+1):Int) by omega];refine aS ?_;refine bw (q:=j) dO rfl rfl rfl bb aa aa ?_;refine k3 (o:=j) bM rfl rfl er (by simp[Addr.add_lit]) rfl (by rw[bX.dE];show _<_*1;simp[oG];omega) ?_;refine aD ?_;refine bg (j+1) aa aa (ea rfl rfl rfl rfl rfl) (λw' a=>?_);have:=a.rem bv.head
 rw[show n - j=(n - (j+1))+1 by omega,mv,r] at this
 rw[kx B,fh];simpa using this
 refine bI ?_;intro S b;have D:j=n:=by omega
 subst D;have s:=b.has Has.head
 rw[m9,List.replicate_zero,fR,ez (by rw[oG];omega)] at s
 exact ik.ga b.ext s (by rw[oG];exact t) (λk E=>by simp only[Value.ownBlock,dI] at E;omega)
theorem uT (w:World) (F:Nat→Prop) (A:Option Addr) (n c:Nat) (rows:List bS) (b:Rd bX w F A n c (iK rows)) (k:Nat) (l:k≤n) (m:n≤1000000):
 Calls prog 369 [.slice A n c,.int .i64 (k:Int)].toArray w (λe w'=>e= .returned (.int .i64 (fm rows k:Int))∧Ext [] w w'):=by
 have d:=b.len
 rw[oG] at d
 refine aW func369 ntmps369 ?_;refine bB ?_;refine aj (λf=>?_) (λf=>?_);refine aL ?_;intro g a;have:k=0:=by omega
 subst this;exact⟨rfl,a.ext⟩;obtain⟨k,rfl⟩ : ∃j,k=j+1:=⟨k - 1,aa⟩;obtain⟨b2,o,_,h⟩:=b.at_ (sG (rows:=rows) (k:=k) aa);refine aD ?_;refine bw (q:=k) dO rfl rfl rfl bA aa aa ?_;refine a7 bM rfl rfl (λw' i=>i.ct (h 0 _ rfl) av) ?_;refine ax ?_;intro g a;exact⟨rfl,a.ext⟩
def jD (rows:List bS) (p:bh):Int:=
 if p.row<0 then 0 else if (rows.length:Int)≤p.row then (fm rows rows.length:Int)
 else (fm rows p.row.toNat:Int)+min (max 0 p.dp) ((fm rows (p.row.toNat+1):Int) - (fm rows p.row.toNat:Int))
theorem F1 (w:World) (F:Nat→Prop) (A:Option Addr) (n c:Nat) (rows:List bS) (f:Rd bX w F A n c (iK rows)) (a o:Int) (r:n≤1000000) (z:eb rows≤1000000):
 Calls prog 285 [.slice A n c,.agg [.int .i64 a,.int .i64 o].toArray].toArray w (λe w'=>e= .returned (.int .i64 (jD rows ⟨a,o⟩))∧Ext [] w w'):=by
 have g:=f.len
 rw[oG] at g
 refine aW func285 ntmps285 ?_;refine ah ?_;intro B C D;refine bp ?_;refine aX 10 rfl (λh=>?_) (λh=>?_);have d:=a1 h
 refine et ?_;intro i b;exact⟨by rw[jD,ay (show a<0 from d)],b.ext⟩;have d:=bc h
 refine aR ?_;refine aj (λs=>?_) (λs=>?_);refine aJ ?_;intro i b;have t:n=0:=by omega
 refine⟨?_,b.ext⟩;rw[jD,ag (show ¬a<0 from d),ay (show (rows.length:Int)≤a by omega),g,t];rfl
 refine aR ?_;refine aj (λu=>?_) (λu=>?_);obtain⟨b2,v,_,l⟩:=f.at_ (sG (rows:=rows) (k:=n - 1) aa);refine al ?_;refine bw (q:=n - 1) dO rfl rfl rfl bA aa aa ?_;refine a7 bM rfl rfl (λw' m=>m.ct (l 0 _ rfl) av) ?_;refine aD ?_;intro i b;refine⟨?_,b.ext⟩;rw[jD,ag (show ¬a<0 from d),ay (show (rows.length:Int)≤a by omega),g,show n - 1+1=n by omega];obtain⟨k,rfl⟩ : ∃k:Nat,a=k:=⟨a.toNat,aa⟩;obtain⟨b2,v,_,l⟩:=f.at_ (sG (rows:=rows) (k:=k) aa);have E:=pZ rows k
 have G:=pZ rows (k+1)
 have H:=xo (rows:=rows) (j:=k) (k:=k+1) aa
 refine aL ?_;refine ao rfl z7 rfl (λw' m=>uT w' F A n c rows (f.ext m.ext av) k aa r) ?_;refine aS ?_;refine bF [0,1,2,3,4,5,6,7,8,9,10,11,12,13] 0 [[]] ?_;refine aD ?_;refine aI rfl (λx p=>(bw (q:=k) dO rfl rfl rfl bA aa aa aC)) ?_;refine aI rfl (λx p=>(a7 bM rfl rfl (λI y=>by subst y;exact p.ct (l 0 _ rfl) av) aC)) ?_;refine aR ?_;intro i b;refine⟨?_,b.ext⟩;rw[jD,ag (show ¬(k:Int)<0 from d),ag (show ¬(rows.length:Int)≤(k:Int) by omega)];rfl
theorem eu.cut {w:World} {F:Nat→Prop} {A:Option Addr} {n c:Nat} {rows:List bS} (h:eu w F A n c rows) {p q:Nat} (d:p≤q) (e:q≤n):
 eu w F (if c=p then A else A.map (·.add (p*2))) (q - p) (c - p) ((rows.take q).drop p):=by
 obtain⟨eN,f,g,i⟩:=h.hC;refine⟨(eN.take q).drop p,f.cut d e,?_,λk r row a b=>?_⟩;rw[List.map_drop,List.map_take,g,List.map_drop,List.map_take];rw[mu,iB] at a b
 split at a
 rename_i j;rw[ay j] at b
 exact i _ r row a b;cases a
theorem PL (a b:List bS):eb (a++b)=eb a+eb b:=by simp[eb]
theorem PM (rows:List bS) (k:Nat):eb (rows.drop k)≤eb rows:=by
 have h:=i7 k rows
 have:eb rows=eb (rows.take k)+eb (rows.drop k):=by rw[←PL,h]
 omega
section
variable {P:Program} {n:Nat} {ops:Array Oper} {Q:cq} {rest:List Oper} {l:Fr} {H:World→Prop} {d:Nat} {ty:TypeId} {pos:String} {a6:Array Edge}
theorem F2 {cv dD:TypeId} {x y:Operand} {k aK:IntKind} {a b r:Int} (ak:Nat.blt d n=true) (e:ba l x=some (.int k a)) (f:ba l y=some (.int aK b)) (g:0≤b) (i:a/2 ^ min b.toNat k.bits=r)
 (h:az P n ops Q rest ((d,.int k r)::l) H):az P n ops Q (⟨some d,.binOp .shr cv x y dD,ty,pos,a6,none⟩::rest) l H:=
 df _ ak (λj w c=>by simp[execOp,c x _ e,c y _ f,eqGuard,binOp,shift_shr_any k aK a b g,i]) h
end
theorem PN (w:World) (n a:Nat) (f:FuncId) (cap:List Value) (p:Nat→Bool) (B:n≤1000000) (q:ad prog f)
 (s: ∀w',Ext [] w w'→ ∀i:Nat,i<n→Calls prog f (([]:List Value)++[Value.int .i64 (i:Int)]++cap).toArray w' (λe u=>e= .returned (.bool (p i))∧Ext [] w' u))
 (ai: ∀i j,i≤j→j<n→p i=true→p j=true) (C:a≤n) (c: ∀j,j<a→p j=false) (d:a<n→p a=true):
 Calls prog 291 [.int .i64 (n:Int),.func (.func f) [].toArray cap.toArray].toArray w (λe w'=>e= .returned (.int .i64 (a:Int))∧Ext [] w w'):=by
 refine aW func291 ntmps291 ?_;refine b_ ?_;refine b1 (ι:=Nat × Nat) (λi=>[(1,.func (.func f) [].toArray cap.toArray),(5,.int .i64 (i.1 :Int)),(6,.int .i64 (i.2 :Int))]) (λ_=>af w [] []) (λi=>i.1≤i.2∧i.2≤n∧(∀t,t<i.1→p t=false)∧(∀t,i.2≤t→t<n→p t=true)) (λi=>i.2 - i.1) ?_ ?_;exact λw g=>⟨(0,n),⟨bP _,ch _,by simp,λt c d=>by omega⟩,(ef rfl rfl rfl),g⟩
 rintro⟨i,j⟩ ⟨v,o,k,l⟩;dsimp only at v o k l ⊢
 refine aL ?_;refine aj (λx=>?_) (λx=>?_);refine aL ?_;refine dm rfl rfl underlying3 underlying250 (r:=(i:Int)+(j:Int)) (by simp[IntKind.wrap,IntKind.bits,IntKind.signed];omega) ?_;refine F2 rfl rfl rfl aZ (r:=(((i+j)/2 :Nat):Int)) (by rw[show min (1 :Int).toNat IntKind.u64.bits=1 from rfl];omega) ?_;refine ax ?_;generalize D: (i+j)/2=m
 refine ah ?_;refine gx rfl rfl q rfl (λw' y=>s w' y.ext m aa) ?_;refine ah ?_;refine b6 rfl (λb=>?_) (λb=>?_);have b:p m=false:=by simpa using b
 refine al ?_;refine bg (m+1,j) ⟨aa,o,λt E=>?_,l⟩ (by simp;omega) (ef rfl rfl rfl) (λ_ h=>h);cases z:p t with
 | false=>rfl
 | true=>rw[ai t m aa aa z] at b;cases b
 have b:p m=true:=by simpa using b
 refine ax ?_;exact bg (i,m) ⟨aa,aa,k,λt c d=>ai m t c d b⟩ (by simp;omega) bR (λ_ h=>h);refine bI ?_;intro F g;have A:i=j:=by omega
 subst A;have:a=i:=by
  rcases Nat.lt_trichotomy a i with h | h | h
  have:=k a h
  rw[d aa] at this
  cases this
  exact h;have:=c i h
  rw[l i (ch _) aa] at this
  cases this
 exact⟨by rw[this],g.ext⟩
theorem PO (w:World) (F:Nat→Prop) (A:Option Addr) (n c:Nat) (rows:List bS) (f:Rd bX w F A n c (iK rows)) (g h:Nat) (off:Int) (l:w.cell? ⟨g,0,none⟩=some (.slice A n c)) (m:w.cell? ⟨h,0,none⟩=some (.int .i64 off)) (i:Nat) (hi:i<n):
 Calls prog 368 (([]:List Value)++[Value.int .i64 (i:Int)]++[Value.pointer (some ⟨g,0,none⟩),Value.pointer (some ⟨h,0,none⟩)]).toArray w (λe o=>e= .returned (.bool (decide (off<(fm rows (i+1):Int))))∧Ext [] w o):=by
 have p:=f.len
 rw[oG] at p
 obtain⟨b2,t,_,r⟩:=f.at_ (sG (rows:=rows) (k:=i) aa);refine aW func368 ntmps368 ?_;refine al ?_;refine bF [0,1,2,3,4,5,6] 0 [[]] ?_;refine aI rfl (λd a=>(a7 il rfl rfl (λj b=>by subst b;exact a.ct l av) aC)) ?_;refine ar ?_;refine aI rfl (λd a=>(bw (q:=i) dO rfl rfl rfl bA aa aa aC)) ?_;refine aI rfl (λd a=>(a7 bM rfl rfl (λj b=>by subst b;exact a.ct (r 0 _ rfl) av) aC)) ?_;refine aI rfl (λd a=>(a7 bM rfl rfl (λj b=>by subst b;exact a.ct m av) aC)) ?_;refine aD ?_;intro u s;exact⟨rfl,s.ext⟩
def F3 (rows:List bS) (off:Int) (k:Nat):Prop:=k≤rows.length∧(∀j,j<k→(fm rows (j+1):Int)≤off)∧(k<rows.length→off<(fm rows (k+1):Int))
theorem F4 (rows:List bS) (off:Int): ∃k,F3 rows off k:=by
 have: ∀m,m≤rows.length→ ∃k,k≤m∧(∀j,j<k→(fm rows (j+1):Int)≤off)∧(k<m→off<(fm rows (k+1):Int)):=by
  intro m;induction m with
  | zero=>exact λ_=>⟨0,ch _,by simp,by simp⟩
  | succ m c=>
   intro g;obtain⟨k,i,a,d⟩:=c aa;by_cases b:k<m
   exact⟨k,aa,a,λ_=>d b⟩;have b:k=m:=by omega
   subst b;by_cases e:off<(fm rows (k+1):Int)
   exact⟨k,aa,a,λ_=>e⟩;refine⟨k+1,ch _,λj l=>?_,λh=>by omega⟩;by_cases f:j=k
   subst f;omega
   exact a j aa
 exact this rows.length (ch _)
noncomputable def oH (rows:List bS) (off:Int):Nat:=Classical.choose (F4 rows off)
theorem F5 (rows:List bS) (off:Int):F3 rows off (oH rows off):=Classical.choose_spec (F4 rows off)
noncomputable def jW (rows:List bS) (off:Int):bh:=
 if rows.length=0 then ⟨0,0⟩ else if oH rows (max 0 off)=rows.length then ⟨((rows.length - 1 :Nat):Int),min (max 0 off) (fm rows rows.length:Int) - (fm rows (rows.length - 1):Int)⟩
 else ⟨(oH rows (max 0 off):Int),max 0 off - (fm rows (oH rows (max 0 off)):Int)⟩
theorem sH (w:World) (F:Nat→Prop) (A:Option Addr) (n c:Nat) (rows:List bS) (g:Rd bX w F A n c (iK rows)) (off:Int) (L: -9223372036854775808≤off∧off≤9223372036854775807) (p:n≤1000000) (M:eb rows≤1000000):
 Calls prog 284 [.slice A n c,.int .i64 off].toArray w (λe w'=>e= .returned (.agg (jW rows off).enc.toArray)∧Ext [] w w'):=by
 have s:=g.len
 rw[oG] at s
 refine aW func284 ntmps284 ?_;refine ah ?_;intro t N O;refine ar ?_;intro u P Q;refine ar ?_;intro R S T;refine aR ?_;refine aj (λB=>?_) (λB=>?_);refine aJ ?_;intro v l;exact⟨by rw[jW,ay aa];rfl,l.ext⟩;refine b_ ?_;have x:=F5 rows (max 0 off)
 generalize y:oH rows (max 0 off)=k at x
 obtain⟨U,aK,C⟩:=x;have D:k≤n:=by omega
 refine ao rfl zZ rfl (λw' m=>PN w' n k 368 [.pointer (some ⟨t,0,none⟩),.pointer (some ⟨u,0,none⟩)] (λi=>decide (max 0 off<(fm rows (i+1):Int))) p Oz (λE G i hi=>?_) (λi j V z hi=>?_) D (λj z=>?_) (λW=>?_)) ?_;have r:=m.keep G
 exact PO E F A n c rows (g.ext r.ext av) t u (max 0 off) (r.ep (o:=0) (Has.tail (Has.tail Has.head)) rfl) (r.ep (o:=0) (Has.tail Has.head) rfl) i hi;have:=xo (rows:=rows) (j:=i+1) (k:=j+1) aa
 simp only[e2] at hi ⊢
 omega
 have:=aK j z
 simp only[e1];omega
 have:=C aa
 simpa using this
 refine bB ?_;refine aj (λH=>?_) (λH=>?_);have I:k=n:=by omega
 subst I;obtain⟨b2,X,_,J⟩:=g.at_ (sG (rows:=rows) (k:=k - 1) aa);have K:=pZ rows (k - 1)
 have Y:=pZ rows k
 refine aD ?_;refine bF [0,1,2,3,4,5] 1 [[(6,true,[])]] ?_;refine aI rfl (λd a=>(a7 bM rfl rfl (λf b=>by subst b;exact (a.ep (o:=0) (Has.tail Has.head) rfl)) aC)) ?_;refine aI rfl (λd a=>(a7 il rfl rfl (λf b=>by subst b;exact (a.ep (o:=0) (Has.tail (Has.tail Has.head)) rfl)) aC)) ?_;refine ar ?_;refine aI rfl (λd a=>(bw (q:=k - 1) dO rfl rfl rfl bA aa aa aC)) ?_;refine aI rfl (λd a=>(a7 bM rfl rfl (λf b=>by subst b;exact (a.ct (J 0 _ rfl) av)) aC)) ?_;refine aJ ?_;rw[show (k:Int) - 1=((k - 1 :Nat):Int) by omega,show k - 1+1=k by omega];refine bF [0,1,2,3] 4 [[(4,false,[]),(5,false,[]),(6,false,[]),(7,true,[])]] ?_;refine ar ?_;refine aI rfl (λd a=>(a7 bM rfl rfl (λf b=>by subst b;exact (a.ep (o:=0) (Has.tail Has.head) rfl)) aC)) ?_;refine aI rfl (λd a=>(a7 il rfl rfl (λf b=>by subst b;exact (a.ep (o:=0) (Has.tail (Has.tail Has.head)) rfl)) aC)) ?_;refine ah ?_;refine ao rfl z7 rfl (λw' m=>uT w' F A k c rows (g.ext m.ext av) (k - 1) aa p) ?_;refine aL ?_;refine bV (λ_=>True) (λ_ h=> .inr ⟨.inr ⟨.inr h,cz⟩,cz⟩) (λ_ h=>aT) ?_;refine aJ ?_;intro v l;refine⟨?_,l.ext⟩;rw[jW,ag aa,y,s,ay rfl];rfl
 have K:=pZ rows k
 refine ah ?_;refine bF [0,1,2,3] 4 [[(4,false,[]),(5,false,[]),(6,false,[]),(7,true,[])]] ?_;refine ar ?_;refine aI rfl (λd a=>(a7 bM rfl rfl (λf b=>by subst b;exact (a.ep (o:=0) (Has.tail Has.head) rfl)) aC)) ?_;refine aI rfl (λd a=>(a7 il rfl rfl (λf b=>by subst b;exact (a.ep (o:=0) (Has.tail (Has.tail Has.head)) rfl)) aC)) ?_;refine ah ?_;refine ao rfl z7 rfl (λw' m=>uT w' F A n c rows (g.ext m.ext av) k aa p) ?_;refine aL ?_;refine bV (λ_=>True) (λ_ h=> .inr ⟨.inr ⟨.inr h,cz⟩,cz⟩) (λ_ h=>aT) ?_;refine aJ ?_;intro v l;refine⟨?_,l.ext⟩;rw[jW,ag aa,y,ag aa];rfl
end
end Go.Proofs.YtoghoobfpcadbaaGreatDoor.Mq
namespace Go.Proofs.YtoghoobfpcadbaaGreatDoor.Mq
open Go Go.RowKit Go.Proofs
theorem PP (rows:List bS): (q4 rows).length≤eb rows:=by
 rw[q4,Ar,dv,hN];have:=xl rows
 omega
theorem eu.hI {w:World} {F:Nat→Prop} {A:Option Addr} {n c:Nat} {rows:List bS} (h:eu w F A n c rows):eu w (λk=>F k∧k<w.heap.size) A n c rows:=by
 obtain⟨eN,a,b,d⟩:=h.hC;exact⟨eN,a.hI aZ,b,λk r row e f=>(d k r row e f).hI aZ⟩
theorem PQ (rows:List bS) (p:bh):0≤jD rows p∧jD rows p≤(eb rows:Int):=by
 unfold jD;split
 omega
 split
 have:=pZ rows rows.length;omega
 have a:=pZ rows (p.row.toNat+1)
 have b:=xo (rows:=rows) (j:=p.row.toNat) (k:=p.row.toNat+1) aa
 omega
end Go.Proofs.YtoghoobfpcadbaaGreatDoor.Mq
namespace Go.Proofs.YtoghoobfpcadbaaGreatDoor.Mq
open Go Go.RowKit Go.Proofs Tryz
def oI (r:Int):Bool:=decide (0≤r) && decide (r≤1114111) && !(decide (55296≤r) && decide (r≤57343))
def gc (r k:Nat):UInt8:=UInt8.ofNat (128 ||| ((r/2 ^ (6*k))%256 &&& 63))
def fT (r:Int):List UInt8:=
 if oI r=true then
  if r<128 then [UInt8.ofNat r.toNat] else
  if r<2048 then [UInt8.ofNat (192 ||| (r.toNat/64)%256),gc r.toNat 0] else
  if r<65536 then [UInt8.ofNat (224 ||| (r.toNat/4096)%256),gc r.toNat 1,gc r.toNat 0] else
  [UInt8.ofNat (240 ||| (r.toNat/262144)%256),gc r.toNat 2,gc r.toNat 1,gc r.toNat 0]
 else []
theorem AA (r:Int): (fT r).length≤4:=by
 unfold fT;repeat' split
 all_goals simp
def oJ (c:bj):List UInt8:=if c.half=2 then [] else if c.r=0 then [32] else fT c.r++c.more
def lh (rows:List bS) (k:Nat):List bj:=((rows[k]?).map (·.1)).getD []
def fU (fr:bh) (k:Nat):Int:=if (k:Int)=fr.row then max 0 fr.dp else 0
def gT (to:bh) (k len:Nat):Int:=if (k:Int)=to.row then min (len:Int) to.dp else (len:Int)
def hO (p q:bh):Bool:=decide (p.row<q.row∨p.row=q.row∧p.dp<q.dp)
def li (c:bj):Bool:=decide (c.r≠0) && decide (c.half≠3)
def q6 (L:List bj) (a:Nat):Nat→Option Nat
 | 0=>none
 | k+1=>if k<a then none else if ((L[k]?).map li).getD false=true then some (k+1) else q6 L a k
def lS (rows:List bS) (fr to:bh) (l0:Nat):Nat→bh
 | 0=>⟨0,0⟩
 | k+1=>if k<l0 then ⟨0,0⟩ else match q6 (lh rows k) (fU fr k).toNat (gT to k (lh rows k).length).toNat with
  | some x=>⟨(k:Int),(x:Int)⟩
  | none=>lS rows fr to l0 k
def q7 (row:Nat) (en:bh) (x:Nat) (c:bj):List UInt8:=if c.half≠3∧hO ⟨(row:Int),(x:Int)⟩ en=true then oJ c else []
def io (L:List bj) (row:Nat) (en:bh) (a:Nat):Nat→List UInt8
 | 0=>[]
 | k+1=>io L row en a k++(if k<a then [] else match L[k]? with
  | some c=>q7 row en k c
  | none=>[])
def jg (rows:List bS) (fr to en:bh) (l0:Nat):Nat→List UInt8
 | 0=>[]
 | k+1=>jg rows fr to en l0 k++(if k<l0 then [] else io (lh rows k) k en (fU fr k).toNat (gT to k (lh rows k).length).toNat)
def ip (rows:List bS) (fr to:bh) (a:Int × Int):List UInt8:=
 if max a.1 fr.row<a.2∧max a.1 fr.row≤to.row then
  jg rows fr to (lS rows fr to (max a.1 fr.row).toNat (if to.row<rows.length∧to.row+1<a.2 then to.row+1 else a.2).toNat) (max a.1 fr.row).toNat (if to.row<rows.length∧to.row+1<a.2 then to.row+1 else a.2).toNat++
   (if (if to.row<rows.length∧to.row+1<a.2 then to.row+1 else a.2) - 1<to.row then [10] else [])
 else []
def uU (fr:bh):bh:=if fr.row<0 then ⟨0,0⟩ else fr
def jE (rows:List bS) (fr to:bh):List UInt8:=if hO (uU fr) to=true then (ky rows rows.length).flatMap (ip rows (uU fr) to) else []
theorem xp (L:List bj) (row:Nat) (en:bh) (a:Nat): ∀k,k≤a→io L row en a k=[]
 | 0,_=>rfl
 | k+1,h=>by rw[io,xp L row en a k aa,ay aa];rfl
theorem AB (rows:List bS) (fr to en:bh) (l0:Nat): ∀k,k≤l0→jg rows fr to en l0 k=[]
 | 0,_=>rfl
 | k+1,h=>by rw[jg,AB rows fr to en l0 k aa,ay aa];rfl
theorem PR (rows:List bS) (fr to:bh) (l0:Nat): ∀k,k≤l0→lS rows fr to l0 k=⟨0,0⟩
 | 0,_=>rfl
 | k+1,h=>by rw[lS,ay aa]
theorem F6 {rows:List bS} {n:Nat}: ∀(L:List (Int × Int)) (a:Nat),sF rows n a L→ ∀b∈L,∃s e:Nat,b=((s:Int),(e:Int))∧s<e∧e≤n
 | [],_,_,b,h=>by cases h
 | p::L,a,h,b,c=>by
  obtain⟨e,d,f,g,_,_,i⟩:=Az h;rcases eZ.1 c with rfl | c
  exact⟨a,e,d,f,g⟩;exact F6 L e i b c
theorem PS (w:World) (r:Int):Calls prog 364 [.int .i32 r].toArray w (λe w'=>e= .returned (.bool (oI r))∧Ext [] w w'):=by
 refine aW func364 ntmps364 ?_;refine aR ?_;refine aX 5 rfl (λb=>?_) (λb=>?_);have g:=a1 b
 refine al ?_;refine aX 9 rfl (λc=>?_) (λc=>?_);have i:=a1 c
 refine al ?_;refine aX 12 rfl (λd=>?_) (λd=>?_);have j:=a1 d
 refine aR ?_;intro f a;refine⟨?_,a.ext⟩;unfold oI;rw[b5 (show 0≤r by omega),b5 (show r≤1114111 by omega),bO (show ¬55296≤r by omega)];rfl
 have j:=bc d
 refine bB ?_;intro f a;refine⟨?_,a.ext⟩;unfold oI;rw[b5 (show 0≤r by omega),b5 (show r≤1114111 by omega),b5 (show 55296≤r by omega)];by_cases h:r≤57343
 rw[b5 h,bO (show ¬57343<r by omega)];rfl
 rw[bO h,b5 (show 57343<r by omega)];rfl
 have i:=bc c
 refine bB ?_;intro f a;refine⟨?_,a.ext⟩;unfold oI;rw[b5 (show 0≤r by omega),bO (show ¬r≤1114111 by omega)];rfl
 have g:=bc b
 refine dx ?_;intro f a;refine⟨?_,a.ext⟩;unfold oI;rw[bO (show ¬0≤r by omega)];rfl
theorem PT (x k:Nat): (128 ||| (x/2 ^ (6*k)%256 &&& 63))<256:=by
 refine oi (n:=8) aZ ?_;have:= @Nat.and_le_right (x/2 ^ (6*k)%256) 63
 omega
theorem sI (w:World) (g x k:Nat) (h:x≤1114111) (i:k≤2) (a:w.cell? ⟨g,0,none⟩=some (.int .i32 (x:Int))):
 Calls prog 363 [.int .i64 (k:Int),.pointer (some ⟨g,0,none⟩)].toArray w (λe w'=>e= .returned (.int .u8 ((gc x k).toNat:Int))∧Ext [] w w'):=by
 have b:=PT x k
 have j:= @Nat.and_le_right (x/2 ^ (6*k)%256) 63
 have c:x/2 ^ (6*k)%256<256:=iF _ aZ
 have l:x/2 ^ (6*k)≤x:=Nat.div_le_self _ _
 refine aW func363 ntmps363 ?_;refine aD ?_;refine a7 jz rfl rfl (λw' d=>d.ct a av) ?_;refine ar ?_;refine k1 (r:=((6*k:Nat):Int)) rfl rfl rfl (by rw[wrap64 aa aa];omega) ?_;refine pT (r:=((x/2 ^ (6*k):Nat):Int)) rfl rfl rfl aa (by rcases (show k=0∨k=1∨k=2 by omega) with rfl | rfl | rfl <;> rfl) ?_;refine dm (r:=((x/2 ^ (6*k)%256 :Nat):Int)) rfl rfl underlying21 underlying5 (by rw[IntKind.wrap_u8];omega) ?_;refine q1 (r:=((x/2 ^ (6*k)%256 &&& 63 :Nat):Int)) rfl rfl rfl (and_eq (m:=x/2 ^ (6*k)%256) (n:=63) rfl rfl c aZ (np aa aa)) ?_;refine mD (r:=((128 ||| (x/2 ^ (6*k)%256 &&& 63):Nat):Int)) rfl rfl rfl (or_eq (m:=128) (n:=x/2 ^ (6*k)%256 &&& 63) rfl rfl aZ (by simp only[IntKind.bits];omega) (np aa aa)) ?_;refine ax ?_;intro o f;refine⟨?_,f.ext⟩;rw[gc,qM,Nat.mod_eq_of_lt b]
theorem sJ:ad prog 363:=ad.of func363 ab ab
theorem PU (x:Nat): (x:Int)/2 ^ min (12 :Int).toNat IntKind.i32.bits=((x/4096 :Nat):Int):=by
 have e: (2 :Int) ^ min (12 :Int).toNat IntKind.i32.bits=4096:=by decide
 rw[e];omega
theorem PV (x:Nat): (x:Int)/2 ^ min (18 :Int).toNat IntKind.i32.bits=((x/262144 :Nat):Int):=by
 have e: (2 :Int) ^ min (18 :Int).toNat IntKind.i32.bits=262144:=by decide
 rw[e];omega
theorem AC {a m:Nat} (b:a<256) (c:m<256):IntKind.u8.wrap ((BitVec.ofInt IntKind.u8.bits (a:Int) ||| BitVec.ofInt IntKind.u8.bits (m:Int)).toNat:Int)=((UInt8.ofNat (a ||| m)).toNat:Int):=by
 have h:=oi (n:=8) b c
 refine or_eq (m:=a) (n:=m) rfl rfl b c ?_;rw[np aa aa,qM,Nat.mod_eq_of_lt h]
theorem F7 (w:World) (r:Int):Calls prog 278 [.int .i32 r].toArray w (λe w'=>e= .returned (.string (bs (fT r)))∧Ext [] w w'):=by
 refine aW func278 ntmps278 ?_;refine ah ?_;intro c F G;refine b_ ?_;refine ao rfl Ov rfl (λw' _=>PS w' r) ?_;refine aS ?_;refine b6 rfl (λo=>?_) (λo=>?_);have i:oI r=false:=by simpa using o
 refine aJ ?_;intro k d;exact⟨by rw[fT,ag (by rw[i];decide)] <;> rfl,d.ext⟩;have i:oI r=true:=by simpa using o
 have C:=i
 unfold oI at C
 rw[d_,d_,e2,e2] at C
 obtain⟨x,rfl⟩ : ∃x:Nat,r=(x:Int):=⟨r.toNat,aa⟩;have j:x≤1114111:=by omega
 have D: ((x:Int)).toNat=x:=rfl
 have H: ∀l,fT (x:Int)=l→bs (fT (x:Int))=bs l:=λl h=>by rw[h]
 refine aD ?_;refine aj (λp=>?_) (λp=>?_);refine ah ?_;refine dm (r:=((UInt8.ofNat x).toNat:Int)) rfl rfl underlying21 underlying5 (by rw[IntKind.wrap_u8,qM];omega) ?_;refine ar ?_;intro I J K;refine jd (s:=[UInt8.ofNat x]) underlying59 underlying5 underlying9 rfl rfl (λw' b=>Rd.ho (E:=cD) (L:=[UInt8.ofNat x]) b Has.head rfl aZ) ?_;refine aD ?_;intro k d;exact⟨by rw[fT,ay i,ay p] <;> rfl,d.ext⟩;have t: ¬(x:Int)<128:=p
 refine aD ?_;refine aj (λu=>?_) (λu=>?_);have n: (x:Int)<2048:=u
 refine ar ?_;refine eq [0,1,2,3,4] 3 [[(5,false,[]),(6,false,[]),(7,false,[8])]] (pQ [aE c [.int .i32 (x:Int)] 21]) mixed ab (λ_ d=>d.drew) (λ_ h=>h.aG) ?_;refine ar ?_;refine aI rfl (λf g=>(pT (r:=((x/64 :Nat):Int)) rfl rfl rfl aZ rfl aC)) ?_;refine aI rfl (λf g=>(dm (r:=((x/64%256 :Nat):Int)) rfl rfl underlying21 underlying5 (by rw[IntKind.wrap_u8];omega) aC)) ?_;refine aI rfl (λf g=>(mD (r:=((UInt8.ofNat (192 ||| x/64%256)).toNat:Int)) rfl rfl rfl (AC (a:=192) (m:=x/64%256) aZ aa) aC)) ?_;refine ah ?_;refine gx (first:=[]) (cap:=[.pointer (some ⟨c,0,none⟩)]) (v:= .int .u8 ((gc x 0).toNat:Int)) rfl rfl sJ rfl (λw' b=>sI w' c x 0 j aZ (b.ep aQ rfl)) ?_;refine bV (λ_=>True) (λ_ h=> .inr h.aG) (λ_ h=>aT) ?_;refine ah ?_;intro M N O;refine bV (λ_=>True) (λ_ h=> .inr ⟨.inr ((h.rem bv.head).aG),aT⟩) (λ_ h=>aT) ?_;refine aq ?_;refine jd (s:=[UInt8.ofNat (192 ||| x/64%256),gc x 0]) underlying59 underlying5 underlying9 rfl rfl (λw' b=>Rd.ho (E:=cD) (L:=[UInt8.ofNat (192 ||| x/64%256),gc x 0]) b Has.head rfl aZ) ?_;refine bV (λ_=>True) (λ_ h=> .inr ⟨.inr ⟨.inr ((h.rem bv.head).aG),aT⟩,aT⟩) (λ_ h=>aT) ?_;refine aL ?_;intro k d;exact⟨by rw[fT,ay i,ag t,ay n];rfl,d.ext⟩;have n: ¬(x:Int)<2048:=u
 refine aD ?_;refine aj (λy=>?_) (λy=>?_);have z: (x:Int)<65536:=y
 obtain⟨q,A,B⟩ : ∃q:Nat,q=x/4096∧(x:Int)/2 ^ min (12 :Int).toNat IntKind.i32.bits=(q:Int):=⟨_,rfl,PU x⟩;refine ar ?_;refine eq [0,1,2,3,4,6] 4 [[(5,false,[]),(7,false,[]),(8,false,[]),(9,false,[10])]] (pQ [aE c [.int .i32 (x:Int)] 21]) mixed ab (λ_ d=>d.drew) (λ_ h=>h.aG) ?_;refine ar ?_;refine aI rfl (λf g=>(pT (r:=(q:Int)) rfl rfl rfl aZ B aC)) ?_;refine aI rfl (λf g=>(dm (r:=((q%256 :Nat):Int)) rfl rfl underlying21 underlying5 (by rw[IntKind.wrap_u8];omega) aC)) ?_;refine aI rfl (λf g=>(mD (r:=((UInt8.ofNat (224 ||| q%256)).toNat:Int)) rfl rfl rfl (AC (a:=224) (m:=q%256) aZ aa) aC)) ?_;refine aS ?_;refine gx (first:=[]) (cap:=[.pointer (some ⟨c,0,none⟩)]) (v:= .int .u8 ((gc x 1).toNat:Int)) rfl rfl sJ rfl (λw' b=>sI w' c x 1 j aZ (b.ep aQ rfl)) ?_;refine bV (λ_=>True) (λ_ h=> .inr h.aG) (λ_ h=>aT) ?_;refine aq ?_;refine gx (first:=[]) (cap:=[.pointer (some ⟨c,0,none⟩)]) (v:= .int .u8 ((gc x 0).toNat:Int)) rfl rfl sJ rfl (λw' b=>sI w' c x 0 j aZ (b.ep aQ rfl)) ?_;refine bV (λ_=>True) (λ_ h=> .inr ⟨.inr h.aG,aT⟩) (λ_ h=>aT) ?_;refine ah ?_;intro P Q R;refine bV (λ_=>True) (λ_ h=> .inr ⟨.inr ⟨.inr ((h.rem bv.head).aG),aT⟩,aT⟩) (λ_ h=>aT) ?_;refine aq ?_;refine jd (s:=[UInt8.ofNat (224 ||| q%256),gc x 1,gc x 0]) underlying59 underlying5 underlying9 rfl rfl (λw' b=>Rd.ho (E:=cD) (L:=[UInt8.ofNat (224 ||| q%256),gc x 1,gc x 0]) b Has.head rfl aZ) ?_;refine bV (λ_=>True) (λ_ h=> .inr ⟨.inr ⟨.inr ⟨.inr ((h.rem bv.head).aG),aT⟩,aT⟩,aT⟩) (λ_ h=>aT) ?_;refine aL ?_;intro k d;exact⟨by rw[fT,ay i,ag t,ag n,ay z,D,←A] <;> rfl,d.ext⟩;have z: ¬(x:Int)<65536:=y
 obtain⟨q,A,B⟩ : ∃q:Nat,q=x/262144∧(x:Int)/2 ^ min (18 :Int).toNat IntKind.i32.bits=(q:Int):=⟨_,rfl,PV x⟩;refine aS ?_;refine eq [0,1,2,3,4,6,8] 5 [[(5,false,[]),(7,false,[]),(9,false,[]),(10,false,[]),(11,false,[12])]] (pQ [aE c [.int .i32 (x:Int)] 21]) mixed ab (λ_ d=>d.drew) (λ_ h=>h.aG) ?_;refine ar ?_;refine aI rfl (λf g=>(pT (r:=(q:Int)) rfl rfl rfl aZ B aC)) ?_;refine aI rfl (λf g=>(dm (r:=((q%256 :Nat):Int)) rfl rfl underlying21 underlying5 (by rw[IntKind.wrap_u8];omega) aC)) ?_;refine aI rfl (λf g=>(mD (r:=((UInt8.ofNat (240 ||| q%256)).toNat:Int)) rfl rfl rfl (AC (a:=240) (m:=q%256) aZ aa) aC)) ?_;refine ax ?_;refine gx (first:=[]) (cap:=[.pointer (some ⟨c,0,none⟩)]) (v:= .int .u8 ((gc x 2).toNat:Int)) rfl rfl sJ rfl (λw' b=>sI w' c x 2 j aZ (b.ep aQ rfl)) ?_;refine bV (λ_=>True) (λ_ h=> .inr h.aG) (λ_ h=>aT) ?_;refine aq ?_;refine gx (first:=[]) (cap:=[.pointer (some ⟨c,0,none⟩)]) (v:= .int .u8 ((gc x 1).toNat:Int)) rfl rfl sJ rfl (λw' b=>sI w' c x 1 j aZ (b.ep aQ rfl)) ?_;refine bV (λ_=>True) (λ_ h=> .inr ⟨.inr h.aG,aT⟩) (λ_ h=>aT) ?_;refine aq ?_;refine gx (first:=[]) (cap:=[.pointer (some ⟨c,0,none⟩)]) (v:= .int .u8 ((gc x 0).toNat:Int)) rfl rfl sJ rfl (λw' b=>sI w' c x 0 j aZ (b.ep aQ rfl)) ?_;refine bV (λ_=>True) (λ_ h=> .inr ⟨.inr ⟨.inr h.aG,aT⟩,aT⟩) (λ_ h=>aT) ?_;refine ah ?_;intro S T U;refine bV (λ_=>True) (λ_ h=> .inr ⟨.inr ⟨.inr ⟨.inr ((h.rem bv.head).aG),aT⟩,aT⟩,aT⟩) (λ_ h=>aT) ?_;refine aq ?_;refine jd (s:=[UInt8.ofNat (240 ||| q%256),gc x 2,gc x 1,gc x 0]) underlying59 underlying5 underlying9 rfl rfl (λw' b=>Rd.ho (E:=cD) (L:=[UInt8.ofNat (240 ||| q%256),gc x 2,gc x 1,gc x 0]) b Has.head rfl aZ) ?_;refine bV (λ_=>True) (λ_ h=> .inr ⟨.inr ⟨.inr ⟨.inr ⟨.inr ((h.rem bv.head).aG),aT⟩,aT⟩,aT⟩,aT⟩) (λ_ h=>aT) ?_;refine al ?_;intro k d;exact⟨by rw[fT,ay i,ag t,ag n,ag z,D,←A] <;> rfl,d.ext⟩
theorem PW (w:World) (c:bj) (i:c.more.length≤1000000):Calls prog 190 [.agg c.enc.toArray].toArray w (λe w'=>e= .returned (.string (bs (oJ c)))∧Ext [] w w'):=by
 have j:=AA c.r
 refine aW func190 ntmps190 ?_;refine ah ?_;intro g k l;refine bI ?_;refine aj (λb=>?_) (λb=>?_);refine aJ ?_;intro f a;exact⟨by rw[oJ,ay b] <;> rfl,a.ext⟩;refine aL ?_;refine aj (λd=>?_) (λd=>?_);refine aJ ?_;intro f a;exact⟨by rw[oJ,ag b,ay d] <;> rfl,a.ext⟩;refine aS ?_;refine eq [0,1,3,4] 1 [[(2,false,[5,6])]] (pQ [aE g c.enc 283]) mixed ab (λ_ a=>a.drew) (λ_ h=>h.aG) ?_;refine al ?_;refine ao rfl ER rfl (λw' _=>F7 w' c.r) ?_;refine bV (λ_=>True) (λ_ h=> .inr h.aG) (λ_ h=>aT) ?_;refine aI rfl (λm n=>(eF rfl rfl rfl aa aC)) ?_;refine al ?_;intro f a;exact⟨by rw[oJ,ag b,ag d],a.ext⟩
end Go.Proofs.YtoghoobfpcadbaaGreatDoor.Mq
namespace Go.Proofs.YtoghoobfpcadbaaGreatDoor.Mq
open Go Go.RowKit Go.Proofs
section
section
variable {b:World} {S:List Nat} {cs cs':List Chunk} {w:World}
theorem af.AD {l:List Chunk} {k:Nat} {c c':Chunk} (h:af b S (c'::aU l::cs) w) (a:l[k]? = some c):af b S (aU (l.set k c')::cs) w:=by
 have d:=(cY.1 a).1
 have f:=(cY.1 a).2
 have g:l=l.take k++c::l.drop (k+1):=by
  conv=>lhs;rw[←i7 k l]
  rw[lG d,f]
 have i:l.set k c'=l.take k++c'::l.drop (k+1):=by rw[qG,ay d]
 have j:af b S (aU l::c'::cs) w:=h.perm (List.Perm.swap _ _ _)
 have e:=j.lb
 rw[g] at e
 have m:af b S (c::(l.take k++c'::l.drop (k+1))++cs) w:=e.perm (by
  simp only[fh,mq];refine List.perm_middle.trans (List.Perm.cons _ ?_);refine List.Perm.append_left _ ?_;exact (oh).trans (List.Perm.refl _))
 rw[i];exact (m.rem bv.head).close'
theorem af.F8 {l l':List Chunk} (h:af b S (aU l::cs) w) (ai:List.Perm l l'):af b S (aU l'::cs) w:=(h.lb.perm (ai.append_right _)).close'
theorem af.PX {l l' r:List Chunk} (h:af b S (aU l::cs) w) (ai:List.Perm l (r++l')):af b S (aU l'::cs) w:=by
 have a:=h.lb.perm (ai.append_right cs)
 rw[fh] at a
 exact (af.drop _ r a).close'
end
structure bT where
 A:Option Addr
 c:Nat
 cont:Bool
 cells:List bj
abbrev bT.val (r:bT):Value:= .slice r.A r.cells.length r.c
abbrev bT.enc (r:bT):List Value:=[.slice r.A r.cells.length r.c,.bool r.cont]
def cn:bx bT:=⟨bT.enc,2,λ_=>rfl,λ_=>aH.cons rfl (aH.cons rfl aH.nil)⟩
abbrev bT.fo (r:bT):bS:=(r.cells,r.cont)
abbrev bT.uV (r:bT):pX:=⟨r.A,r.cells.length,r.c,r.cont⟩
abbrev dQ (v:Value) (L:List bj):Chunk:=own 283 8 v L.length (bJ.all L)
abbrev bT.aG (r:bT):Chunk:=dQ r.val r.cells
abbrev b0 (eN:List bT):List bS:=eN.map bT.fo
abbrev jh:bT:=⟨none,0,false,[]⟩
structure dd where
 A:Option Addr
 c:Nat
 l:List bT
abbrev dd.val (r:dd):Value:= .slice r.A r.l.length r.c
abbrev dd.au (r:dd):Chunk:=own 144 2 r.val r.l.length (cn.all r.l)
abbrev dd.cj (r:dd):Chunk:=aU (r.l.map bT.aG)
theorem F9 (eN:List bT):cn.all eN=lf.all (eN.map bT.uV):=by
 induction eN with
 | nil=>rfl
 | cons r eN a=>
  show cn.enc r++cn.all eN=lf.enc r.uV++lf.all (eN.map bT.uV)
  rw[a];rfl
theorem uW {w:World} {v:Value} {L:List bj} (h: (dQ v L).pred w): ∃A c,v= .slice A L.length c∧Rd bJ w (λk=>v.ownBlock=some k) A L.length c L:=
 Rd.ga (E:=bJ) (show w.ownsRow 0 283 bJ.sz v L.length (bJ.all L) from h) rfl
theorem sK {w:World} {r:dd} (f:r.au.pred w) (h:r.cj.pred w):eu w (λ_=>True) r.A r.l.length r.c (b0 r.l):=by
 have i:w.ownsRow 0 144 lf.sz r.val r.l.length (lf.all (r.l.map bT.uV)):=by
  have:w.ownsRow 0 144 2 r.val r.l.length (cn.all r.l):=f
  rw[F9] at this;exact this
 obtain⟨A,c,j,m⟩:=Rd.ga (E:=lf) i av;injection j with n v o
 subst n o;refine⟨_,m.dJ (λ_ _=>aT),by simp,λk x row a b=>?_⟩;rw[eJ] at a b
 cases e:r.l[k]? with
 | none=>rw[e] at a;cases a
 | some g=>
  rw[e] at a b
  cases a;cases b
  have p:=h g.aG (dX.2 ⟨g,dc e,rfl⟩)
  obtain⟨y,d,q,s⟩:=uW p;injection q with t z u
  subst t u;exact s.dJ (λ_ _=>aT)
structure ec where
 kind:Int
 at_:Int
 n:Int
abbrev ec.enc (s:ec):List Value:=[.int .i64 s.kind,.int .i64 s.at_,.int .i64 s.n]
def jX:bx ec:=⟨ec.enc,3,λ_=>rfl,λ_=>aH.cons rfl (aH.cons rfl (aH.cons rfl aH.nil))⟩
structure lT where
 A:Option Addr
 c:Nat
 l:List ec
abbrev lT.val (r:lT):Value:= .slice r.A r.l.length r.c
abbrev lT.au (r:lT):Chunk:=own 167 3 r.val r.l.length (jX.all r.l)
structure dj where
 g:Nat
 s:dd
 room:Int
 first:Int
 n:Int
 gone:Int
abbrev AE (r:dj):List Value:=[r.s.val,.int .i64 r.room,.int .i64 r.first,.int .i64 r.n,.int .u64 r.gone]
abbrev dj.an (r:dj):Chunk:=aE r.g (AE r) 197
abbrev cd (r:dj):List Chunk:=[r.an,r.s.au,r.s.cj]
def ev (r:dj) (i:Int):Int:=if (r.s.l.length:Int)≤i+r.first then i+r.first - r.s.l.length else i+r.first
structure cU (r:dj):Prop where
 len: (r.s.l.length:Int)≤r.room
 room:0≤r.room∧r.room≤100000
 n:0≤r.n∧r.n≤r.s.l.length
 first:0≤r.first∧(r.first<r.s.l.length∨r.first=0)
 gone:0≤r.gone∧r.gone<18446744073709551616
def dj.rows (r:dj):List bS:=(List.range r.n.toNat).map (λ(i:Nat)=>(((r.s.l[(ev r i).toNat]?).map bT.fo).getD ([],false)))
structure bq where
 g:Nat
 r:dj
 s:dd
 cols:Int
 be:lT
abbrev nx (p:bq):List Value:=[.pointer (some ⟨p.r.g,0,none⟩),p.s.val,.int .i64 p.cols,p.be.val]
abbrev bq.an (p:bq):Chunk:=aE p.g (nx p) 106
abbrev bD (p:bq):List Chunk:=[p.an,aU (cd p.r),p.s.au,p.s.cj,p.be.au]
abbrev ptr (g:Nat):Value:= .pointer (some ⟨g,0,none⟩)
end
end Go.Proofs.YtoghoobfpcadbaaGreatDoor.Mq
namespace Go.Proofs.YtoghoobfpcadbaaGreatDoor.Mq
open Go Go.RowKit Go.Proofs Tryz
theorem af.bZ {b w:World} {S:List Nat} {cs:List Chunk} (h:af b S cs w) {g o:Nat} {xs:List Value} {t:TypeId} {v:Value} (a: (aE g xs t).pred b) (c:g∉S) (d:xs[o]? = some v):w.cell? ⟨g,o,none⟩=some v:=by
 refine h.ct ?_ c;have e:b.heap[g]? = some (.cells xs.toArray t (0,0)):=a
 rw[cell_of_row b g o xs.toArray t (0,0) e];simpa using d
theorem af.jF {b w:World} {S:List Nat} {cs:List Chunk} (h:af b S cs w) {g o sz:Nat} {xs vs:List Value} {t:TypeId} (c: (aE g xs t).pred b) (d:g∉S) (e: (xs.drop o).take sz=vs) (j:Nat) (u:Value) (a:vs[j]? = some u):w.cell? ((⟨g,o,none⟩ :Addr).add j)=some u:=by
 rw[Addr.add_lit];refine h.bZ c d ?_;rw[←e,iB] at a
 split at a
 simpa using a
 cases a
theorem dt {P:Program} {n:Nat} {ops:Array Oper} {Q:cq} {rest:List Oper} {l:Fr} {d:Nat} {ty:TypeId} {pos:String} {a6:Array Edge} {H:World→Prop} {x i:Operand} {t e len sz:Nat} {g o:Nat} {q:Nat} {k:IntKind} {j:Int} (a:P.underlying t=some (.array len e)) (b: (P.info? e).map (·.size)=some sz) (ak:Nat.blt d n=true) (c:ba l x=some (.pointer (some ⟨g,o,none⟩))) (hi:ba l i=some (.int k j))
 (f:j=(q:Int)) (m:q<len)
 (h:az P n ops Q rest ((d,.pointer (some ⟨g,o+q*sz,none⟩))::l) H):az P n ops Q (⟨some d,.indexAddr t x i,ty,pos,a6,none⟩::rest) l H:=
 qN a b ak c hi f m (by rw[Addr.add_lit];exact h)
abbrev Pure (v:Value) (w:World):Ending→World→Prop:=λe w'=>e= .returned v∧Ext [] w w'
theorem AF (w:World) (r:dj) (a:r.an.pred w):Calls prog 92 [ptr r.g].toArray w (Pure (.int .i64 r.n) w):=by
 refine aW func92 ntmps92 ?_;refine hr ?_;refine a7 bM rfl rfl (λd b=>b.bZ a (by (simp;done)) rfl) ?_;refine ax ?_;intro e c;exact⟨rfl,c.ext⟩
theorem xq (w:World) (r:dj) (b:r.an.pred w) (i:Int) (hi:0≤i∧i≤1000000) (h:0≤r.first∧r.first≤1000000) (j: (r.s.l.length:Int)≤1000000):Calls prog 94 [ptr r.g,.int .i64 i].toArray w (Pure (.int .i64 (ev r i)) w):=by
 refine aW func94 ntmps94 ?_;refine bp ?_;refine a7 bM rfl rfl (λd a=>a.bZ b (by (simp;done)) rfl) ?_;refine bp ?_;refine a7 wF rfl rfl (λd a=>a.bZ b (by (simp;done)) rfl) ?_;refine aS ?_;refine aj (λe=>?_) (λe=>?_);refine ax ?_;refine a7 wF rfl rfl (λd a=>a.bZ b (by (simp;done)) rfl) ?_;refine bI ?_;intro f c;exact⟨by simp only[ev,Ending.returned.injEq,Value.int.injEq,true_and];omega,c.ext⟩;refine aR ?_;intro f c;exact⟨by simp only[ev,Ending.returned.injEq,Value.int.injEq,true_and];omega,c.ext⟩
theorem p1 (w:World) (p:bq) (ai:p.an.pred w):Calls prog 14 [ptr p.g].toArray w (Pure (.int .i64 (p.s.l.length:Int)) w):=by
 refine aW func14 ntmps14 ?_;refine hr ?_;refine a7 wF rfl rfl (λc a=>a.bZ ai (by (simp;done)) rfl) ?_;refine al ?_;intro d b;exact⟨rfl,b.ext⟩
theorem AG (w:World) (p:bq) (ai:p.an.pred w):Calls prog 269 [ptr p.g].toArray w (Pure (.int .i64 p.cols) w):=by
 refine aW func269 ntmps269 ?_;refine hr ?_;refine a7 bM rfl rfl (λc a=>a.bZ ai (by (simp;done)) rfl) ?_;refine ax ?_;intro d b;exact⟨rfl,b.ext⟩
theorem af.dK {b w:World} {S:List Nat} {cs:List Chunk} (h:af b S cs w) {c:Chunk} (a:c.pred b) (ak: ∀k∈c.cm,k∉S):c.pred w:=
 c.loc b w (λk d=>h.ext.block k (c.low b a k d) (ak k d)) a
theorem oK (w:World) (p:bq) (ai:p.an.pred w) (a:p.r.an.pred w):Calls prog 91 [ptr p.g].toArray w (Pure (.int .i64 p.r.n) w):=by
 refine aW func91 ntmps91 ?_;refine hr ?_;refine a7 LU rfl rfl (λf b=>b.bZ ai (by (simp;done)) rfl) ?_;refine ao rfl zG rfl (λc d=>AF c _ (d.dK a av)) ?_;refine ax ?_;intro h e;exact⟨rfl,e.ext⟩
theorem sL (w:World) (p:bq) (ai:p.an.pred w) (y:Int):Calls prog 331 [ptr p.g,.int .i64 y].toArray w (Pure (.bool (decide (0≤y∧y<p.s.l.length))) w):=by
 refine aW func331 ntmps331 ?_;refine aR ?_;refine aX 7 rfl (λa=>?_) (λa=>?_);have c:=a1 a
 refine ax ?_;refine ao rfl pH rfl (λd e=>p1 d _ (e.dK ai av)) ?_;refine aL ?_;intro f b;exact⟨by simp;omega,b.ext⟩;have c:=bc a
 refine aR ?_;intro f b;exact⟨by simp;omega,b.ext⟩
end Go.Proofs.YtoghoobfpcadbaaGreatDoor.Mq
