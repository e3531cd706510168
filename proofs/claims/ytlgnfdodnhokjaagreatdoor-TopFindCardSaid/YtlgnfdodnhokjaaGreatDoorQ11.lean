/- part 11 of the proof -/
import Derived.Test.YtlgnfdodnhokjaaGreatDoorQ10
import Derived.Laws.Shifts
namespace Go.Proofs.YtlgnfdodnhokjaaGreatDoor.Mq
open Go Go.RowKit Go.Proofs Tryz
section
theorem Qg {α:Type} (E:bA α) (a:α) (m:Nat):ff (E.enc a) m=E.all (List.replicate m a):=by
 induction m with
 | zero=>simp[ff,bA.all]
 | succ m b=>
  have: ∀(l:List α),E.all (a::l)=E.enc a++E.all l:=λl=>by simp[bA.all]
  rw[mD,this,ff,b]
theorem Gl: ∀{rows:List bG} {row:bG},row∈rows→row.1.length≤d8 rows
 | r::rows,row,h=>by
  have a:d8 (r::rows)=r.1.length+d8 rows:=by simp[d8]
  rcases e1.1 h with rfl | h
  omega
  have:=Gl h
  omega
def oS (l:List bh):Nat:=(l.filter (λc=>decide (c.half≠3))).length
def fu (rows:List bG) (k:Nat):Nat:=(cellsOf (rows.take k)).length
theorem Qh {rows:List bG} {k:Nat} {row:bG} (h:rows[k]? = some row):fu rows (k+1)=fu rows k+oS row.1:=by
 rw[fu,kC h,Gg,b6];rfl
theorem p4 (rows:List bG) (k:Nat):fu rows k≤d8 rows:=fp (xw _) (AH rows k)
theorem xz {rows:List bG} {j k:Nat} (h:j≤k):fu rows j≤fu rows k:=by
 have:rows.take k=rows.take j++(rows.take k).drop j:=by
  conv=>lhs;rw[←iF j (rows.take k),List.take_take,iG h]
 rw[fu,fu,this];simp[cellsOf]
theorem Qi (l:List bh):oS l≤l.length:=List.length_filter_le _ _
theorem Qj {l:List bh} {k:Nat} {x:bh} (a:l[k]? = some x):oS (l.take (k+1))=if x.half≠3 then oS (l.take k)+1 else oS (l.take k):=by
 unfold oS;rw[kC a,AG];by_cases h:x.half=3 <;> simp[h]
theorem p5 (w:World) (F:Nat→Prop) (A:Option Addr) (n c:Nat) (l:List bh) (b:Bool) (h:Rd bK w F A n c l) (s:n≤1000000):
 Calls prog 352 [.agg [.slice A n c,.bool b].toArray].toArray w (λe w'=>e= .returned (.int .i64 (oS l:Int))∧Ext [] w w'):=by
 have t:=h.len
 refine aV func352 ntmps352 ?_;refine ah ?_;intro v y z;refine eR ?_;refine b2 (ι:=Nat) (λi=>[(3,.int .i64 (oS (l.take i):Int)),(7,.slice A n c),(8,.int .i64 (n:Int)),(9,.int .i64 (i:Int))]) (λ_=>af w [] []) (λi=>i≤n) (λi=>n - i) ?_ ?_;exact λw f=>⟨0,bP _,(cj rfl rfl rfl rfl),f.rem bw.head⟩
 rintro j k;have o:=Qi (l.take j)
 rw[dl] at o
 refine al ?_;refine aj (λp=>?_) (λp=>?_);obtain⟨x,m⟩ : ∃x,l[j]? = some x:=⟨l[j]'aa,bE _⟩;obtain⟨B,C,_,q⟩:=h.at_ m;have d:=Qj m
 refine al ?_;refine bC dv rfl rfl rfl bv bc aa ?_;refine cx j0 rfl rfl (rfl) (λw' a j u k=>a.cu (q j u k) av) ?_;refine ar ?_;intro D E G;refine aQ ?_;refine aj (λg=>?_) (λg=>?_);refine bp ?_;rw[aw g] at d
 exact bi (j+1) aa aa (Sub.cons (by rw[d];rfl) bR) (λw' a=>a.rem bw.head);refine aC ?_;rw[ag g] at d
 exact bi (j+1) aa aa (Sub.cons (by rw[d];rfl) bR) (λw' a=>a.rem bw.head);refine bH ?_;intro H f;have r:j=n:=by omega
 subst r;exact⟨by rw[ev aa],f.ext⟩
def iL (rows:List bG):List Int:=(List.range rows.length).map (λk=>(fu rows (k+1):Int))
theorem oT (rows:List bG): (iL rows).length=rows.length:=by simp[iL]
theorem sT {rows:List bG} {k:Nat} (h:k<rows.length): (iL rows)[k]? = some (fu rows (k+1):Int):=by simp[iL,h]
theorem Gm (m:Nat):ff [.int .i64 0] m=bT.all (List.replicate m (0 :Int)):=Qg bT (0 :Int) m
theorem Gn (w:World) (F:Nat→Prop) (A:Option Addr) (n c:Nat) (rows:List bG) (f:ez w F A n c rows) (G:n≤1000000) (H:d8 rows≤1000000):
 Calls prog 273 [.slice A n c].toArray w (il bT w (iL rows)):=by
 have t:=f.len
 refine aV func273 ntmps273 ?_;refine aJ ?_;refine sq n dL rfl rfl rfl rfl (by simp only[maxLen];omega) aa (λg I J=>?_);refine aS ?_;rw[Gm];refine bH ?_;refine b2 (ι:=Nat) (λi=>[(3,.slice (some ⟨g,0,none⟩) n n),(4,.int .i64 (fu rows i:Int)),(10,.slice A n c),(11,.int .i64 (n:Int)),(12,.int .i64 (i:Int))]) (λi=>af w [] [own 3 1 (.slice (some ⟨g,0,none⟩) n n) n (bT.all ((iL rows).take i++List.replicate (n - i) 0))]) (λi=>i≤n) (λi=>n - i) ?_ ?_;exact λw b=>⟨0,bP _,(ec rfl rfl rfl rfl rfl),by simpa using b⟩
 rintro j h;refine al ?_;refine aj (λx=>?_) (λx=>?_);obtain⟨row,e⟩ : ∃row,rows[j]? = some row:=⟨rows[j]'aa,bE _⟩;obtain⟨bY,y,m,d,K,_,z,l⟩:=f.at_ e;have L:=Qh e
 have M:=p4 rows (j+1)
 have N:=l.len
 have O:row.1.length≤d8 rows:=Gl (da e)
 have B:=sT (rows:=rows) (k:=j) aa
 have p: ((iL rows).take j).length=j:=by rw[dl,oT];omega
 have C: ((iL rows).take j++List.replicate (n - j) (0 :Int))[j]? = some 0:=by
  rw[kp aa,p,nh,r8,aw aa]
 have r:=bT.pF (j:=0) (a':=(fu rows (j+1):Int)) (v:= .int .i64 (fu rows (j+1):Int)) C aZ rfl
 rw[sa _ _ aa,p,nh,show n - j=(n - (j+1))+1 by omega,mD,mE,show j*bT.sz+0=j by simp[bT]] at r
 refine aC ?_;refine bC dK rfl rfl rfl bv bc aa ?_;refine cx gV rfl rfl (rfl) (λw' a j u h=>a.cu (z j u h) av) ?_;refine ar ?_;intro P Q R;refine aK ?_;refine ao rfl O5 rfl (λw' a=>p5 w' _ y m d row.1 row.2 (l.ext a.ext av) aa) ?_;refine aS ?_;rw[show (fu rows j:Int)+(oS row.1 :Int)=(fu rows (j+1):Int) by omega];refine aS ?_;refine bC (q:=j) dL rfl rfl rfl bc aa aa ?_;refine k4 (o:=j) bN rfl rfl ew (by simp[Addr.add_lit]) rfl (by rw[bT.dI];show _<_*1;simp[oT];omega) ?_;refine aC ?_;refine bi (j+1) aa aa (ec rfl rfl rfl rfl rfl) (λw' a=>?_);have:=a.rem bw.head
 rw[show n - j=(n - (j+1))+1 by omega,mD,r] at this
 rw[kC B,ea];simpa using this
 refine bH ?_;intro S b;have D:j=n:=by omega
 subst D;have s:=b.has Has.head
 rw[nh,List.replicate_zero,eu,ev (by rw[oT];omega)] at s
 exact il.gf b.ext s (by rw[oT];exact t) (λk E=>by simp only[Value.ownBlock,dA] at E;omega)
theorem u4 (w:World) (F:Nat→Prop) (A:Option Addr) (n c:Nat) (rows:List bG) (b:Rd bT w F A n c (iL rows)) (k:Nat) (l:k≤n) (m:n≤1000000):
 Calls prog 354 [.slice A n c,.int .i64 (k:Int)].toArray w (λe w'=>e= .returned (.int .i64 (fu rows k:Int))∧Ext [] w w'):=by
 have d:=b.len
 rw[oT] at d
 refine aV func354 ntmps354 ?_;refine bx ?_;refine aj (λf=>?_) (λf=>?_);refine aK ?_;intro g a;have:k=0:=by omega
 subst this;exact⟨rfl,a.ext⟩;obtain⟨k,rfl⟩ : ∃j,k=j+1:=⟨k - 1,aa⟩;obtain⟨bY,o,_,h⟩:=b.at_ (sT (rows:=rows) (k:=k) aa);refine aC ?_;refine bC (q:=k) dL rfl rfl rfl bv aa aa ?_;refine a_ bN rfl rfl (λw' i=>i.cu (h 0 _ rfl) av) ?_;refine ay ?_;intro g a;exact⟨rfl,a.ext⟩
def jG (rows:List bG) (p:aY):Int:=
 if p.row<0 then 0 else if (rows.length:Int)≤p.row then (fu rows rows.length:Int)
 else (fu rows p.row.toNat:Int)+min (max 0 p.cM) ((fu rows (p.row.toNat+1):Int) - (fu rows p.row.toNat:Int))
theorem Gp (w:World) (F:Nat→Prop) (A:Option Addr) (n c:Nat) (rows:List bG) (f:Rd bT w F A n c (iL rows)) (a o:Int) (r:n≤1000000) (z:d8 rows≤1000000):
 Calls prog 275 [.slice A n c,.agg [.int .i64 a,.int .i64 o].toArray].toArray w (λe w'=>e= .returned (.int .i64 (jG rows ⟨a,o⟩))∧Ext [] w w'):=by
 have g:=f.len
 rw[oT] at g
 refine aV func275 ntmps275 ?_;refine ah ?_;intro B C D;refine bp ?_;refine aW 10 rfl (λh=>?_) (λh=>?_);have d:=aX h
 refine ey ?_;intro i b;exact⟨by rw[jG,aw (show a<0 from d)],b.ext⟩;have d:=bd h
 refine aQ ?_;refine aj (λs=>?_) (λs=>?_);refine aJ ?_;intro i b;have t:n=0:=by omega
 refine⟨?_,b.ext⟩;rw[jG,ag (show ¬a<0 from d),aw (show (rows.length:Int)≤a by omega),g,t];rfl
 refine aQ ?_;refine aj (λu=>?_) (λu=>?_);obtain⟨bY,v,_,l⟩:=f.at_ (sT (rows:=rows) (k:=n - 1) aa);refine al ?_;refine bC (q:=n - 1) dL rfl rfl rfl bv aa aa ?_;refine a_ bN rfl rfl (λw' m=>m.cu (l 0 _ rfl) av) ?_;refine aC ?_;intro i b;refine⟨?_,b.ext⟩;rw[jG,ag (show ¬a<0 from d),aw (show (rows.length:Int)≤a by omega),g,show n - 1+1=n by omega];obtain⟨k,rfl⟩ : ∃k:Nat,a=k:=⟨a.toNat,aa⟩;obtain⟨bY,v,_,l⟩:=f.at_ (sT (rows:=rows) (k:=k) aa);have E:=p4 rows k
 have G:=p4 rows (k+1)
 have H:=xz (rows:=rows) (j:=k) (k:=k+1) aa
 refine aK ?_;refine ao rfl Aj rfl (λw' m=>u4 w' F A n c rows (f.ext m.ext av) k aa r) ?_;refine aS ?_;refine bF [0,1,2,3,4,5,6,7,8,9,10,11,12,13] 0 [[]] ?_;refine aC ?_;refine aL rfl (λx p=>(bC (q:=k) dL rfl rfl rfl bv aa aa aG)) ?_;refine aL rfl (λx p=>(a_ bN rfl rfl (λI y=>by subst y;exact p.cu (l 0 _ rfl) av) aG)) ?_;refine aQ ?_;intro i b;refine⟨?_,b.ext⟩;rw[jG,ag (show ¬(k:Int)<0 from d),ag (show ¬(rows.length:Int)≤(k:Int) by omega)];rfl
theorem ez.cut {w:World} {F:Nat→Prop} {A:Option Addr} {n c:Nat} {rows:List bG} (h:ez w F A n c rows) {p q:Nat} (d:p≤q) (e:q≤n):
 ez w F (if c=p then A else A.map (·.add (p*2))) (q - p) (c - p) ((rows.take q).drop p):=by
 obtain⟨eS,f,g,i⟩:=h.hC;refine⟨(eS.take q).drop p,f.cut d e,?_,λk r row a b=>?_⟩;rw[List.map_drop,List.map_take,g,List.map_drop,List.map_take];rw[mB,iD] at a b
 split at a
 rename_i j;rw[aw j] at b
 exact i _ r row a b;cases a
theorem Qk (a b:List bG):d8 (a++b)=d8 a+d8 b:=by simp[d8]
theorem Ql (rows:List bG) (k:Nat):d8 (rows.drop k)≤d8 rows:=by
 have h:=iF k rows
 have:d8 rows=d8 (rows.take k)+d8 (rows.drop k):=by rw[←Qk,h]
 omega
section
variable {P:Program} {n:Nat} {ops:Array Oper} {Q:cq} {rest:List Oper} {l:Fr} {H:World→Prop} {d:Nat} {ty:TypeId} {pos:String} {a7:Array Edge}
theorem Gq {cv dx:TypeId} {x y:Operand} {k aH:IntKind} {a b r:Int} (ak:Nat.blt d n=true) (e:ba l x=some (.int k a)) (f:ba l y=some (.int aH b)) (g:0≤b) (i:a/2 ^ min b.toNat k.bits=r)
 (h:az P n ops Q rest ((d,.int k r)::l) H):az P n ops Q (⟨some d,.binOp .shr cv x y dx,ty,pos,a7,none⟩::rest) l H:=
 dd _ ak (λj w c=>by simp[execOp,c x _ e,c y _ f,eqGuard,binOp,shift_shr_any k aH a b g,i]) h
end
theorem Qm (w:World) (n a:Nat) (f:FuncId) (cap:List Value) (p:Nat→Bool) (B:n≤1000000) (q:ad prog f)
 (s: ∀w',Ext [] w w'→ ∀i:Nat,i<n→Calls prog f (([]:List Value)++[Value.int .i64 (i:Int)]++cap).toArray w' (λe u=>e= .returned (.bool (p i))∧Ext [] w' u))
 (ai: ∀i j,i≤j→j<n→p i=true→p j=true) (C:a≤n) (c: ∀j,j<a→p j=false) (d:a<n→p a=true):
 Calls prog 281 [.int .i64 (n:Int),.func (.func f) [].toArray cap.toArray].toArray w (λe w'=>e= .returned (.int .i64 (a:Int))∧Ext [] w w'):=by
 refine aV func281 ntmps281 ?_;refine b7 ?_;refine b2 (ι:=Nat × Nat) (λi=>[(1,.func (.func f) [].toArray cap.toArray),(5,.int .i64 (i.1 :Int)),(6,.int .i64 (i.2 :Int))]) (λ_=>af w [] []) (λi=>i.1≤i.2∧i.2≤n∧(∀t,t<i.1→p t=false)∧(∀t,i.2≤t→t<n→p t=true)) (λi=>i.2 - i.1) ?_ ?_;exact λw g=>⟨(0,n),⟨bP _,bW _,by simp,λt c d=>by omega⟩,(em rfl rfl rfl),g⟩
 rintro⟨i,j⟩ ⟨v,o,k,l⟩;dsimp only at v o k l ⊢
 refine aK ?_;refine aj (λx=>?_) (λx=>?_);refine aK ?_;refine dn rfl rfl underlying3 underlying268 (r:=(i:Int)+(j:Int)) (by simp[IntKind.wrap,IntKind.bits,IntKind.signed];omega) ?_;refine Gq rfl rfl rfl aZ (r:=(((i+j)/2 :Nat):Int)) (by rw[show min (1 :Int).toNat IntKind.u64.bits=1 from rfl];omega) ?_;refine ay ?_;generalize D: (i+j)/2=m
 refine ah ?_;refine gU rfl rfl q rfl (λw' y=>s w' y.ext m aa) ?_;refine ah ?_;refine b1 rfl (λb=>?_) (λb=>?_);have b:p m=false:=by simpa using b
 refine al ?_;refine bi (m+1,j) ⟨aa,o,λt E=>?_,l⟩ (by simp;omega) (em rfl rfl rfl) (λ_ h=>h);cases z:p t with
 | false=>rfl
 | true=>rw[ai t m aa aa z] at b;cases b
 have b:p m=true:=by simpa using b
 refine ay ?_;exact bi (i,m) ⟨aa,aa,k,λt c d=>ai m t c d b⟩ (by simp;omega) bR (λ_ h=>h);refine bH ?_;intro F g;have A:i=j:=by omega
 subst A;have:a=i:=by
  rcases Nat.lt_trichotomy a i with h | h | h
  have:=k a h
  rw[d aa] at this
  cases this
  exact h;have:=c i h
  rw[l i (bW _) aa] at this
  cases this
 exact⟨by rw[this],g.ext⟩
theorem Qn (w:World) (F:Nat→Prop) (A:Option Addr) (n c:Nat) (rows:List bG) (f:Rd bT w F A n c (iL rows)) (g h:Nat) (off:Int) (l:w.cell? ⟨g,0,none⟩=some (.slice A n c)) (m:w.cell? ⟨h,0,none⟩=some (.int .i64 off)) (i:Nat) (hi:i<n):
 Calls prog 353 (([]:List Value)++[Value.int .i64 (i:Int)]++[Value.pointer (some ⟨g,0,none⟩),Value.pointer (some ⟨h,0,none⟩)]).toArray w (λe o=>e= .returned (.bool (decide (off<(fu rows (i+1):Int))))∧Ext [] w o):=by
 have p:=f.len
 rw[oT] at p
 obtain⟨bY,t,_,r⟩:=f.at_ (sT (rows:=rows) (k:=i) aa);refine aV func353 ntmps353 ?_;refine al ?_;refine bF [0,1,2,3,4,5,6] 0 [[]] ?_;refine aL rfl (λd a=>(a_ im rfl rfl (λj b=>by subst b;exact a.cu l av) aG)) ?_;refine ar ?_;refine aL rfl (λd a=>(bC (q:=i) dL rfl rfl rfl bv aa aa aG)) ?_;refine aL rfl (λd a=>(a_ bN rfl rfl (λj b=>by subst b;exact a.cu (r 0 _ rfl) av) aG)) ?_;refine aL rfl (λd a=>(a_ bN rfl rfl (λj b=>by subst b;exact a.cu m av) aG)) ?_;refine aC ?_;intro u s;exact⟨rfl,s.ext⟩
def Gr (rows:List bG) (off:Int) (k:Nat):Prop:=k≤rows.length∧(∀j,j<k→(fu rows (j+1):Int)≤off)∧(k<rows.length→off<(fu rows (k+1):Int))
theorem Gs (rows:List bG) (off:Int): ∃k,Gr rows off k:=by
 have: ∀m,m≤rows.length→ ∃k,k≤m∧(∀j,j<k→(fu rows (j+1):Int)≤off)∧(k<m→off<(fu rows (k+1):Int)):=by
  intro m;induction m with
  | zero=>exact λ_=>⟨0,bW _,by simp,by simp⟩
  | succ m c=>
   intro g;obtain⟨k,i,a,d⟩:=c aa;by_cases b:k<m
   exact⟨k,aa,a,λ_=>d b⟩;have b:k=m:=by omega
   subst b;by_cases e:off<(fu rows (k+1):Int)
   exact⟨k,aa,a,λ_=>e⟩;refine⟨k+1,bW _,λj l=>?_,λh=>by omega⟩;by_cases f:j=k
   subst f;omega
   exact a j aa
 exact this rows.length (bW _)
noncomputable def oU (rows:List bG) (off:Int):Nat:=Classical.choose (Gs rows off)
theorem Gt (rows:List bG) (off:Int):Gr rows off (oU rows off):=Classical.choose_spec (Gs rows off)
noncomputable def j1 (rows:List bG) (off:Int):aY:=
 if rows.length=0 then ⟨0,0⟩ else if oU rows (max 0 off)=rows.length then ⟨((rows.length - 1 :Nat):Int),min (max 0 off) (fu rows rows.length:Int) - (fu rows (rows.length - 1):Int)⟩
 else ⟨(oU rows (max 0 off):Int),max 0 off - (fu rows (oU rows (max 0 off)):Int)⟩
theorem sU (w:World) (F:Nat→Prop) (A:Option Addr) (n c:Nat) (rows:List bG) (g:Rd bT w F A n c (iL rows)) (off:Int) (L: -9223372036854775808≤off∧off≤9223372036854775807) (p:n≤1000000) (M:d8 rows≤1000000):
 Calls prog 274 [.slice A n c,.int .i64 off].toArray w (λe w'=>e= .returned (.agg (j1 rows off).enc.toArray)∧Ext [] w w'):=by
 have s:=g.len
 rw[oT] at s
 refine aV func274 ntmps274 ?_;refine ah ?_;intro t N O;refine ar ?_;intro u P Q;refine ar ?_;intro R S T;refine aQ ?_;refine aj (λB=>?_) (λB=>?_);refine aJ ?_;intro v l;exact⟨by rw[j1,aw aa];rfl,l.ext⟩;refine b7 ?_;have x:=Gt rows (max 0 off)
 generalize y:oU rows (max 0 off)=k at x
 obtain⟨U,aH,C⟩:=x;have D:k≤n:=by omega
 refine ao rfl Ag rfl (λw' m=>Qm w' n k 353 [.pointer (some ⟨t,0,none⟩),.pointer (some ⟨u,0,none⟩)] (λi=>decide (max 0 off<(fu rows (i+1):Int))) p O6 (λE G i hi=>?_) (λi j V z hi=>?_) D (λj z=>?_) (λW=>?_)) ?_;have r:=m.keep G
 exact Qn E F A n c rows (g.ext r.ext av) t u (max 0 off) (r.eP (o:=0) (Has.tail (Has.tail Has.head)) rfl) (r.eP (o:=0) (Has.tail Has.head) rfl) i hi;have:=xz (rows:=rows) (j:=i+1) (k:=j+1) aa
 simp only[e9] at hi ⊢
 omega
 have:=aH j z
 simp only[e2];omega
 have:=C aa
 simpa using this
 refine bx ?_;refine aj (λH=>?_) (λH=>?_);have I:k=n:=by omega
 subst I;obtain⟨bY,X,_,J⟩:=g.at_ (sT (rows:=rows) (k:=k - 1) aa);have K:=p4 rows (k - 1)
 have Y:=p4 rows k
 refine aC ?_;refine bF [0,1,2,3,4,5] 1 [[(6,true,[])]] ?_;refine aL rfl (λd a=>(a_ bN rfl rfl (λf b=>by subst b;exact (a.eP (o:=0) (Has.tail Has.head) rfl)) aG)) ?_;refine aL rfl (λd a=>(a_ im rfl rfl (λf b=>by subst b;exact (a.eP (o:=0) (Has.tail (Has.tail Has.head)) rfl)) aG)) ?_;refine ar ?_;refine aL rfl (λd a=>(bC (q:=k - 1) dL rfl rfl rfl bv aa aa aG)) ?_;refine aL rfl (λd a=>(a_ bN rfl rfl (λf b=>by subst b;exact (a.cu (J 0 _ rfl) av)) aG)) ?_;refine aJ ?_;rw[show (k:Int) - 1=((k - 1 :Nat):Int) by omega,show k - 1+1=k by omega];refine bF [0,1,2,3] 4 [[(4,false,[]),(5,false,[]),(6,false,[]),(7,true,[])]] ?_;refine ar ?_;refine aL rfl (λd a=>(a_ bN rfl rfl (λf b=>by subst b;exact (a.eP (o:=0) (Has.tail Has.head) rfl)) aG)) ?_;refine aL rfl (λd a=>(a_ im rfl rfl (λf b=>by subst b;exact (a.eP (o:=0) (Has.tail (Has.tail Has.head)) rfl)) aG)) ?_;refine ah ?_;refine ao rfl Aj rfl (λw' m=>u4 w' F A k c rows (g.ext m.ext av) (k - 1) aa p) ?_;refine aK ?_;refine b3 (λ_=>True) (λ_ h=> .inr ⟨.inr ⟨.inr h,dp⟩,dp⟩) (λ_ h=>a1) ?_;refine aJ ?_;intro v l;refine⟨?_,l.ext⟩;rw[j1,ag aa,y,s,aw rfl];rfl
 have K:=p4 rows k
 refine ah ?_;refine bF [0,1,2,3] 4 [[(4,false,[]),(5,false,[]),(6,false,[]),(7,true,[])]] ?_;refine ar ?_;refine aL rfl (λd a=>(a_ bN rfl rfl (λf b=>by subst b;exact (a.eP (o:=0) (Has.tail Has.head) rfl)) aG)) ?_;refine aL rfl (λd a=>(a_ im rfl rfl (λf b=>by subst b;exact (a.eP (o:=0) (Has.tail (Has.tail Has.head)) rfl)) aG)) ?_;refine ah ?_;refine ao rfl Aj rfl (λw' m=>u4 w' F A n c rows (g.ext m.ext av) k aa p) ?_;refine aK ?_;refine b3 (λ_=>True) (λ_ h=> .inr ⟨.inr ⟨.inr h,dp⟩,dp⟩) (λ_ h=>a1) ?_;refine aJ ?_;intro v l;refine⟨?_,l.ext⟩;rw[j1,ag aa,y,ag aa];rfl
end
end Go.Proofs.YtlgnfdodnhokjaaGreatDoor.Mq
namespace Go.Proofs.YtlgnfdodnhokjaaGreatDoor.Mq
open Go Go.RowKit Go.Proofs
theorem Qo (rows:List bG): (rf rows).length≤d8 rows:=by
 rw[rf,AF,dl,hP];have:=xw rows
 omega
theorem ez.hI {w:World} {F:Nat→Prop} {A:Option Addr} {n c:Nat} {rows:List bG} (h:ez w F A n c rows):ez w (λk=>F k∧k<w.heap.size) A n c rows:=by
 obtain⟨eS,a,b,d⟩:=h.hC;exact⟨eS,a.hI aZ,b,λk r row e f=>(d k r row e f).hI aZ⟩
theorem Qp (rows:List bG) (p:aY):0≤jG rows p∧jG rows p≤(d8 rows:Int):=by
 unfold jG;split
 omega
 split
 have:=p4 rows rows.length;omega
 have a:=p4 rows (p.row.toNat+1)
 have b:=xz (rows:=rows) (j:=p.row.toNat) (k:=p.row.toNat+1) aa
 omega
end Go.Proofs.YtlgnfdodnhokjaaGreatDoor.Mq
namespace Go.Proofs.YtlgnfdodnhokjaaGreatDoor.Mq
open Go Go.RowKit Go.Proofs Tryz
def oV (r:Int):Bool:=decide (0≤r) && decide (r≤1114111) && !(decide (55296≤r) && decide (r≤57343))
def gh (r k:Nat):UInt8:=UInt8.ofNat (128 ||| ((r/2 ^ (6*k))%256 &&& 63))
def fX (r:Int):List UInt8:=
 if oV r=true then
  if r<128 then [UInt8.ofNat r.toNat] else
  if r<2048 then [UInt8.ofNat (192 ||| (r.toNat/64)%256),gh r.toNat 0] else
  if r<65536 then [UInt8.ofNat (224 ||| (r.toNat/4096)%256),gh r.toNat 1,gh r.toNat 0] else
  [UInt8.ofNat (240 ||| (r.toNat/262144)%256),gh r.toNat 2,gh r.toNat 1,gh r.toNat 0]
 else []
theorem AM (r:Int): (fX r).length≤4:=by
 unfold fX;repeat' split
 all_goals simp
def jH (c:bh):List UInt8:=if c.half=2 then [] else if c.r=0 then [32] else fX c.r++c.more
def dQ (rows:List bG) (k:Nat):List bh:=((rows[k]?).map (·.1)).getD []
def eT (fr:aY) (k:Nat):Int:=if (k:Int)=fr.row then max 0 fr.cM else 0
def fY (to:aY) (k len:Nat):Int:=if (k:Int)=to.row then min (len:Int) to.cM else (len:Int)
def eA (p q:aY):Bool:=decide (p.row<q.row∨p.row=q.row∧p.cM<q.cM)
def lj (c:bh):Bool:=decide (c.r≠0) && decide (c.half≠3)
def iM (L:List bh) (a:Nat):Nat→Option Nat
 | 0=>none
 | k+1=>if k<a then none else if ((L[k]?).map lj).getD false=true then some (k+1) else iM L a k
def fj (rows:List bG) (fr to:aY) (l0:Nat):Nat→aY
 | 0=>⟨0,0⟩
 | k+1=>if k<l0 then ⟨0,0⟩ else match iM (dQ rows k) (eT fr k).toNat (fY to k (dQ rows k).length).toNat with
  | some x=>⟨(k:Int),(x:Int)⟩
  | none=>fj rows fr to l0 k
def hQ (L:List bh):Nat→Nat
 | 0=>0
 | k+1=>if (L[k]?.map (·.half))=some 3 then hQ L k else k+1
abbrev fv:=List (UInt8 × aY)
def lX (p:aY) (t:List UInt8):fv:=t.map (λb=>(b,p))
theorem Gu (p:aY) (t:List UInt8): (lX p t).length=t.length:=cB _
def mQ (row:Nat) (en:aY) (x:Nat) (c:bh):fv:=if c.half≠3∧eA ⟨(row:Int),(x:Int)⟩ en=true then lX ⟨(row:Int),(x:Int)⟩ (jH c) else []
def e5 (L:List bh) (row:Nat) (en:aY) (a:Nat):Nat→fv
 | 0=>[]
 | k+1=>e5 L row en a k++(if k<a then [] else match L[k]? with
  | some c=>mQ row en k c
  | none=>[])
def gE (rows:List bG) (fr to en:aY) (l0:Nat):Nat→fv
 | 0=>[]
 | k+1=>gE rows fr to en l0 k++(if k<l0 then [] else e5 (dQ rows k) k en (eT fr k).toNat (fY to k (dQ rows k).length).toNat)
def jI (rows:List bG) (l1:Int):aY:=⟨l1 - 1,(hQ (dQ rows (l1 - 1).toNat) (dQ rows (l1 - 1).toNat).length:Int)⟩
def e6 (rows:List bG) (fr to:aY) (a:Int × Int):fv:=
 if max a.1 fr.row<a.2∧max a.1 fr.row≤to.row then
  gE rows fr to (fj rows fr to (max a.1 fr.row).toNat (if to.row<rows.length∧to.row+1<a.2 then to.row+1 else a.2).toNat) (max a.1 fr.row).toNat (if to.row<rows.length∧to.row+1<a.2 then to.row+1 else a.2).toNat++
   (if (if to.row<rows.length∧to.row+1<a.2 then to.row+1 else a.2) - 1<to.row then [(10,jI rows (if to.row<rows.length∧to.row+1<a.2 then to.row+1 else a.2))] else [])
 else []
def p6 (fr:aY):aY:=if fr.row<0 then ⟨0,0⟩ else fr
def hR (rows:List bG) (fr to:aY):fv:=if eA (p6 fr) to=true then (jl rows rows.length).flatMap (e6 rows (p6 fr) to) else []
def fT (rows:List bG) (fr to:aY):List UInt8:=(hR rows fr to).map Prod.fst
theorem xA (rows:List bG) (fr to:aY): (fT rows fr to).length=(hR rows fr to).length:=cB _
theorem rh (L:List bh) (row:Nat) (en:aY) (a:Nat): ∀k,k≤a→e5 L row en a k=[]
 | 0,_=>rfl
 | k+1,h=>by rw[e5,rh L row en a k aa,aw aa];rfl
theorem u5 (rows:List bG) (fr to en:aY) (l0:Nat): ∀k,k≤l0→gE rows fr to en l0 k=[]
 | 0,_=>rfl
 | k+1,h=>by rw[gE,u5 rows fr to en l0 k aa,aw aa];rfl
theorem Qq (rows:List bG) (fr to:aY) (l0:Nat): ∀k,k≤l0→fj rows fr to l0 k=⟨0,0⟩
 | 0,_=>rfl
 | k+1,h=>by rw[fj,aw aa]
theorem Gv {rows:List bG} {n:Nat}: ∀(L:List (Int × Int)) (a:Nat),oR rows n a L→ ∀b∈L,∃s e:Nat,b=((s:Int),(e:Int))∧s<e∧e≤n
 | [],_,_,b,h=>by cases h
 | p::L,a,h,b,c=>by
  obtain⟨e,d,f,g,_,_,i⟩:=sS h;rcases e1.1 c with rfl | c
  exact⟨a,e,d,f,g⟩;exact Gv L e i b c
theorem Qr (w:World) (r:Int):Calls prog 206 [.int .i32 r].toArray w (λe w'=>e= .returned (.bool (oV r))∧Ext [] w w'):=by
 refine aV func206 ntmps206 ?_;refine aQ ?_;refine aW 5 rfl (λb=>?_) (λb=>?_);have g:=aX b
 refine al ?_;refine aW 9 rfl (λc=>?_) (λc=>?_);have i:=aX c
 refine al ?_;refine aW 12 rfl (λd=>?_) (λd=>?_);have j:=aX d
 refine aQ ?_;intro f a;refine⟨?_,a.ext⟩;unfold oV;rw[bX (show 0≤r by omega),bX (show r≤1114111 by omega),cg (show ¬55296≤r by omega)];rfl
 have j:=bd d
 refine bx ?_;intro f a;refine⟨?_,a.ext⟩;unfold oV;rw[bX (show 0≤r by omega),bX (show r≤1114111 by omega),bX (show 55296≤r by omega)];by_cases h:r≤57343
 rw[bX h,cg (show ¬57343<r by omega)];rfl
 rw[cg h,bX (show 57343<r by omega)];rfl
 have i:=bd c
 refine bx ?_;intro f a;refine⟨?_,a.ext⟩;unfold oV;rw[bX (show 0≤r by omega),cg (show ¬r≤1114111 by omega)];rfl
 have g:=bd b
 refine dB ?_;intro f a;refine⟨?_,a.ext⟩;unfold oV;rw[cg (show ¬0≤r by omega)];rfl
theorem Qs (x k:Nat): (128 ||| (x/2 ^ (6*k)%256 &&& 63))<256:=by
 refine ox (n:=8) aZ ?_;have:= @Nat.and_le_right (x/2 ^ (6*k)%256) 63
 omega
theorem sV (w:World) (g x k:Nat) (h:x≤1114111) (i:k≤2) (a:w.cell? ⟨g,0,none⟩=some (.int .i32 (x:Int))):
 Calls prog 205 [.int .i64 (k:Int),.pointer (some ⟨g,0,none⟩)].toArray w (λe w'=>e= .returned (.int .u8 ((gh x k).toNat:Int))∧Ext [] w w'):=by
 have b:=Qs x k
 have j:= @Nat.and_le_right (x/2 ^ (6*k)%256) 63
 have c:x/2 ^ (6*k)%256<256:=iH _ aZ
 have l:x/2 ^ (6*k)≤x:=Nat.div_le_self _ _
 refine aV func205 ntmps205 ?_;refine aC ?_;refine a_ jC rfl rfl (λw' d=>d.cu a av) ?_;refine ar ?_;refine k3 (r:=((6*k:Nat):Int)) rfl rfl rfl (by rw[wrap64 aa aa];omega) ?_;refine pY (r:=((x/2 ^ (6*k):Nat):Int)) rfl rfl rfl aa (by rcases (show k=0∨k=1∨k=2 by omega) with rfl | rfl | rfl <;> rfl) ?_;refine dn (r:=((x/2 ^ (6*k)%256 :Nat):Int)) rfl rfl underlying21 underlying5 (by rw[IntKind.wrap_u8];omega) ?_;refine rb (r:=((x/2 ^ (6*k)%256 &&& 63 :Nat):Int)) rfl rfl rfl (and_eq (m:=x/2 ^ (6*k)%256) (n:=63) rfl rfl c aZ (nz aa aa)) ?_;refine mN (r:=((128 ||| (x/2 ^ (6*k)%256 &&& 63):Nat):Int)) rfl rfl rfl (or_eq (m:=128) (n:=x/2 ^ (6*k)%256 &&& 63) rfl rfl aZ (by simp only[IntKind.bits];omega) (nz aa aa)) ?_;refine ay ?_;intro o f;refine⟨?_,f.ext⟩;rw[gh,qU,Nat.mod_eq_of_lt b]
theorem sW:ad prog 205:=ad.of func205 ab ab
theorem Qt (x:Nat): (x:Int)/2 ^ min (12 :Int).toNat IntKind.i32.bits=((x/4096 :Nat):Int):=by
 have e: (2 :Int) ^ min (12 :Int).toNat IntKind.i32.bits=4096:=by decide
 rw[e];omega
theorem Qu (x:Nat): (x:Int)/2 ^ min (18 :Int).toNat IntKind.i32.bits=((x/262144 :Nat):Int):=by
 have e: (2 :Int) ^ min (18 :Int).toNat IntKind.i32.bits=262144:=by decide
 rw[e];omega
theorem AN {a m:Nat} (b:a<256) (c:m<256):IntKind.u8.wrap ((BitVec.ofInt IntKind.u8.bits (a:Int) ||| BitVec.ofInt IntKind.u8.bits (m:Int)).toNat:Int)=((UInt8.ofNat (a ||| m)).toNat:Int):=by
 have h:=ox (n:=8) b c
 refine or_eq (m:=a) (n:=m) rfl rfl b c ?_;rw[nz aa aa,qU,Nat.mod_eq_of_lt h]
theorem Gw (w:World) (r:Int):Calls prog 150 [.int .i32 r].toArray w (λe w'=>e= .returned (.string (bs (fX r)))∧Ext [] w w'):=by
 refine aV func150 ntmps150 ?_;refine ah ?_;intro c F G;refine b7 ?_;refine ao rfl N4 rfl (λw' _=>Qr w' r) ?_;refine aS ?_;refine b1 rfl (λo=>?_) (λo=>?_);have i:oV r=false:=by simpa using o
 refine aJ ?_;intro k d;exact⟨by rw[fX,ag (by rw[i];decide)] <;> rfl,d.ext⟩;have i:oV r=true:=by simpa using o
 have C:=i
 unfold oV at C
 rw[d4,d4,e9,e9] at C
 obtain⟨x,rfl⟩ : ∃x:Nat,r=(x:Int):=⟨r.toNat,aa⟩;have j:x≤1114111:=by omega
 have D: ((x:Int)).toNat=x:=rfl
 have H: ∀l,fX (x:Int)=l→bs (fX (x:Int))=bs l:=λl h=>by rw[h]
 refine aC ?_;refine aj (λp=>?_) (λp=>?_);refine ah ?_;refine dn (r:=((UInt8.ofNat x).toNat:Int)) rfl rfl underlying21 underlying5 (by rw[IntKind.wrap_u8,qU];omega) ?_;refine ar ?_;intro I J K;refine ji (s:=[UInt8.ofNat x]) underlying51 underlying5 underlying9 rfl rfl (λw' b=>Rd.hp (E:=cz) (L:=[UInt8.ofNat x]) b Has.head rfl aZ) ?_;refine aC ?_;intro k d;exact⟨by rw[fX,aw i,aw p] <;> rfl,d.ext⟩;have t: ¬(x:Int)<128:=p
 refine aC ?_;refine aj (λu=>?_) (λu=>?_);have n: (x:Int)<2048:=u
 refine ar ?_;refine eF [0,1,2,3,4] 3 [[(5,false,[]),(6,false,[]),(7,false,[8])]] (pV [aD c [.int .i32 (x:Int)] 21]) mixed ab (λ_ d=>d.drew) (λ_ h=>h.aF) ?_;refine ar ?_;refine aL rfl (λf g=>(pY (r:=((x/64 :Nat):Int)) rfl rfl rfl aZ rfl aG)) ?_;refine aL rfl (λf g=>(dn (r:=((x/64%256 :Nat):Int)) rfl rfl underlying21 underlying5 (by rw[IntKind.wrap_u8];omega) aG)) ?_;refine aL rfl (λf g=>(mN (r:=((UInt8.ofNat (192 ||| x/64%256)).toNat:Int)) rfl rfl rfl (AN (a:=192) (m:=x/64%256) aZ aa) aG)) ?_;refine ah ?_;refine gU (first:=[]) (cap:=[.pointer (some ⟨c,0,none⟩)]) (v:= .int .u8 ((gh x 0).toNat:Int)) rfl rfl sW rfl (λw' b=>sV w' c x 0 j aZ (b.eP aT rfl)) ?_;refine b3 (λ_=>True) (λ_ h=> .inr h.aF) (λ_ h=>a1) ?_;refine ah ?_;intro M N O;refine b3 (λ_=>True) (λ_ h=> .inr ⟨.inr ((h.rem bw.head).aF),a1⟩) (λ_ h=>a1) ?_;refine aq ?_;refine ji (s:=[UInt8.ofNat (192 ||| x/64%256),gh x 0]) underlying51 underlying5 underlying9 rfl rfl (λw' b=>Rd.hp (E:=cz) (L:=[UInt8.ofNat (192 ||| x/64%256),gh x 0]) b Has.head rfl aZ) ?_;refine b3 (λ_=>True) (λ_ h=> .inr ⟨.inr ⟨.inr ((h.rem bw.head).aF),a1⟩,a1⟩) (λ_ h=>a1) ?_;refine aK ?_;intro k d;exact⟨by rw[fX,aw i,ag t,aw n];rfl,d.ext⟩;have n: ¬(x:Int)<2048:=u
 refine aC ?_;refine aj (λy=>?_) (λy=>?_);have z: (x:Int)<65536:=y
 obtain⟨q,A,B⟩ : ∃q:Nat,q=x/4096∧(x:Int)/2 ^ min (12 :Int).toNat IntKind.i32.bits=(q:Int):=⟨_,rfl,Qt x⟩;refine ar ?_;refine eF [0,1,2,3,4,6] 4 [[(5,false,[]),(7,false,[]),(8,false,[]),(9,false,[10])]] (pV [aD c [.int .i32 (x:Int)] 21]) mixed ab (λ_ d=>d.drew) (λ_ h=>h.aF) ?_;refine ar ?_;refine aL rfl (λf g=>(pY (r:=(q:Int)) rfl rfl rfl aZ B aG)) ?_;refine aL rfl (λf g=>(dn (r:=((q%256 :Nat):Int)) rfl rfl underlying21 underlying5 (by rw[IntKind.wrap_u8];omega) aG)) ?_;refine aL rfl (λf g=>(mN (r:=((UInt8.ofNat (224 ||| q%256)).toNat:Int)) rfl rfl rfl (AN (a:=224) (m:=q%256) aZ aa) aG)) ?_;refine aS ?_;refine gU (first:=[]) (cap:=[.pointer (some ⟨c,0,none⟩)]) (v:= .int .u8 ((gh x 1).toNat:Int)) rfl rfl sW rfl (λw' b=>sV w' c x 1 j aZ (b.eP aT rfl)) ?_;refine b3 (λ_=>True) (λ_ h=> .inr h.aF) (λ_ h=>a1) ?_;refine aq ?_;refine gU (first:=[]) (cap:=[.pointer (some ⟨c,0,none⟩)]) (v:= .int .u8 ((gh x 0).toNat:Int)) rfl rfl sW rfl (λw' b=>sV w' c x 0 j aZ (b.eP aT rfl)) ?_;refine b3 (λ_=>True) (λ_ h=> .inr ⟨.inr h.aF,a1⟩) (λ_ h=>a1) ?_;refine ah ?_;intro P Q R;refine b3 (λ_=>True) (λ_ h=> .inr ⟨.inr ⟨.inr ((h.rem bw.head).aF),a1⟩,a1⟩) (λ_ h=>a1) ?_;refine aq ?_;refine ji (s:=[UInt8.ofNat (224 ||| q%256),gh x 1,gh x 0]) underlying51 underlying5 underlying9 rfl rfl (λw' b=>Rd.hp (E:=cz) (L:=[UInt8.ofNat (224 ||| q%256),gh x 1,gh x 0]) b Has.head rfl aZ) ?_;refine b3 (λ_=>True) (λ_ h=> .inr ⟨.inr ⟨.inr ⟨.inr ((h.rem bw.head).aF),a1⟩,a1⟩,a1⟩) (λ_ h=>a1) ?_;refine aK ?_;intro k d;exact⟨by rw[fX,aw i,ag t,ag n,aw z,D,←A] <;> rfl,d.ext⟩;have z: ¬(x:Int)<65536:=y
 obtain⟨q,A,B⟩ : ∃q:Nat,q=x/262144∧(x:Int)/2 ^ min (18 :Int).toNat IntKind.i32.bits=(q:Int):=⟨_,rfl,Qu x⟩;refine aS ?_;refine eF [0,1,2,3,4,6,8] 5 [[(5,false,[]),(7,false,[]),(9,false,[]),(10,false,[]),(11,false,[12])]] (pV [aD c [.int .i32 (x:Int)] 21]) mixed ab (λ_ d=>d.drew) (λ_ h=>h.aF) ?_;refine ar ?_;refine aL rfl (λf g=>(pY (r:=(q:Int)) rfl rfl rfl aZ B aG)) ?_;refine aL rfl (λf g=>(dn (r:=((q%256 :Nat):Int)) rfl rfl underlying21 underlying5 (by rw[IntKind.wrap_u8];omega) aG)) ?_;refine aL rfl (λf g=>(mN (r:=((UInt8.ofNat (240 ||| q%256)).toNat:Int)) rfl rfl rfl (AN (a:=240) (m:=q%256) aZ aa) aG)) ?_;refine ay ?_;refine gU (first:=[]) (cap:=[.pointer (some ⟨c,0,none⟩)]) (v:= .int .u8 ((gh x 2).toNat:Int)) rfl rfl sW rfl (λw' b=>sV w' c x 2 j aZ (b.eP aT rfl)) ?_;refine b3 (λ_=>True) (λ_ h=> .inr h.aF) (λ_ h=>a1) ?_;refine aq ?_;refine gU (first:=[]) (cap:=[.pointer (some ⟨c,0,none⟩)]) (v:= .int .u8 ((gh x 1).toNat:Int)) rfl rfl sW rfl (λw' b=>sV w' c x 1 j aZ (b.eP aT rfl)) ?_;refine b3 (λ_=>True) (λ_ h=> .inr ⟨.inr h.aF,a1⟩) (λ_ h=>a1) ?_;refine aq ?_;refine gU (first:=[]) (cap:=[.pointer (some ⟨c,0,none⟩)]) (v:= .int .u8 ((gh x 0).toNat:Int)) rfl rfl sW rfl (λw' b=>sV w' c x 0 j aZ (b.eP aT rfl)) ?_;refine b3 (λ_=>True) (λ_ h=> .inr ⟨.inr ⟨.inr h.aF,a1⟩,a1⟩) (λ_ h=>a1) ?_;refine ah ?_;intro S T U;refine b3 (λ_=>True) (λ_ h=> .inr ⟨.inr ⟨.inr ⟨.inr ((h.rem bw.head).aF),a1⟩,a1⟩,a1⟩) (λ_ h=>a1) ?_;refine aq ?_;refine ji (s:=[UInt8.ofNat (240 ||| q%256),gh x 2,gh x 1,gh x 0]) underlying51 underlying5 underlying9 rfl rfl (λw' b=>Rd.hp (E:=cz) (L:=[UInt8.ofNat (240 ||| q%256),gh x 2,gh x 1,gh x 0]) b Has.head rfl aZ) ?_;refine b3 (λ_=>True) (λ_ h=> .inr ⟨.inr ⟨.inr ⟨.inr ⟨.inr ((h.rem bw.head).aF),a1⟩,a1⟩,a1⟩,a1⟩) (λ_ h=>a1) ?_;refine al ?_;intro k d;exact⟨by rw[fX,aw i,ag t,ag n,ag z,D,←A] <;> rfl,d.ext⟩
theorem Qv (w:World) (c:bh) (i:c.more.length≤1000000):Calls prog 105 [.agg c.enc.toArray].toArray w (λe w'=>e= .returned (.string (bs (jH c)))∧Ext [] w w'):=by
 have j:=AM c.r
 refine aV func105 ntmps105 ?_;refine ah ?_;intro g k l;refine bH ?_;refine aj (λb=>?_) (λb=>?_);refine aJ ?_;intro f a;exact⟨by rw[jH,aw b] <;> rfl,a.ext⟩;refine aK ?_;refine aj (λd=>?_) (λd=>?_);refine aJ ?_;intro f a;exact⟨by rw[jH,ag b,aw d] <;> rfl,a.ext⟩;refine aS ?_;refine eF [0,1,3,4] 1 [[(2,false,[5,6])]] (pV [aD g c.enc 215]) mixed ab (λ_ a=>a.drew) (λ_ h=>h.aF) ?_;refine al ?_;refine ao rfl EO rfl (λw' _=>Gw w' c.r) ?_;refine b3 (λ_=>True) (λ_ h=> .inr h.aF) (λ_ h=>a1) ?_;refine aL rfl (λm n=>(eJ rfl rfl rfl aa aG)) ?_;refine al ?_;intro f a;exact⟨by rw[jH,ag b,ag d],a.ext⟩
end Go.Proofs.YtlgnfdodnhokjaaGreatDoor.Mq
