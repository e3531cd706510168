/- part 38 of the proof -/
import Derived.Test.YtlgnfdodnhokjaaGreatDoorQ37
import Derived.Shelf.Strings.BuilderK
namespace Go.Proofs.YtlgnfdodnhokjaaGreatDoor.Mq
open Go Go.RowKit Go.Proofs Tryz
abbrev kn (f:Nat) (A:Option Addr) (n c:Nat) (fr to:aY) (b:Nat):List Value:=
 [.slice A n c,.int .i64 fr.row,.int .i64 fr.cM,.int .i64 to.row,.int .i64 to.cM,.func (.func f) #[] #[.pointer (some ⟨b,0,none⟩)]]
theorem y3 {α:Type} {E:bA α} {w:World} {F:Nat→Prop} {A:Option Addr} {n c:Nat} {l:List α} (h:Rd E w F A n c l):n≤maxLen:=fp h.cap h.max
theorem KQ (w:World) (F:Nat→Prop) (A:Option Addr) (n c:Nat) (rows:List bG) (o:ez w F A n c rows) (fr to:aY) (f b k:Nat) (row:bG) (p:rows[k]? = some row):
 Calls prog 104 [.agg (kn f A n c fr to b).toArray,.int .i64 (k:Int)].toArray w (λe w'=>e= .returned (.tuple #[.int .i64 (eT fr k),.int .i64 (fY to k row.1.length)])∧Ext [] w w'):=by
 have z:=o.len
 have B:=(cK.1 p).1
 obtain⟨bY,C,m,d,D,_,t,r⟩:=o.at_ p;have j:=r.len
 have u:=y3 r
 simp only[maxLen] at u
 refine aV func104 ntmps104 ?_;refine ah ?_;intro v E G;refine ay ?_;refine eF [0,1,2,3,4,5,6,7,8] 0 [[]] (af w [] [aD v (kn f A n c fr to b) 150]) mixed ab (λ_ a=>a.drew) (λ_ h=>dp) ?_;refine ah ?_;refine aL rfl (λx s=>(bC (q:=k) dK rfl rfl rfl bv aa aa aG)) ?_;refine ar ?_;refine aL rfl (λx s=>(a_ sx rfl rfl (λH y=>by subst y;exact (s.cu (t 0 _ rfl) av)) aG)) ?_;refine dB ?_;refine aj (λi=>?_) (λi=>?_);refine eR ?_;refine aj (λg=>?_) (λg=>?_);refine eL ?_;intro l a;exact⟨by unfold eT fY;rw[aw i,aw g,j],a.ext⟩;refine bx ?_;intro l a;exact⟨by unfold eT fY;rw[aw i,ag g,j],a.ext⟩;refine bx ?_;refine aj (λg=>?_) (λg=>?_);refine eL ?_;intro l a;exact⟨by unfold eT fY;rw[ag i,aw g,j],a.ext⟩;refine bx ?_;intro l a;exact⟨by unfold eT fY;rw[ag i,ag g,j],a.ext⟩
theorem X8 (w:World) (F:Nat→Prop) (A:Option Addr) (n c:Nat) (l:List bh) (b:Bool) (f:Rd bK w F A n c l):
 Calls prog 106 [.agg [.slice A n c,.bool b].toArray].toArray w (λe w'=>e= .returned (.int .i64 (hQ l n:Int))∧Ext [] w w'):=by
 have t:=f.len
 have p:=y3 f
 simp only[maxLen] at p
 refine aV func106 ntmps106 ?_;refine ah ?_;intro m u v;refine bH ?_;refine b2 (ι:=Nat) (λi=>[(3,.int .i64 (i:Int)),(1,.pointer (some ⟨m,0,none⟩))]) (λ_=>af w [] [aD m [.slice A n c,.bool b] 144]) (λi=>i≤n∧hQ l n=hQ l i) (λi=>i) ?_ ?_;exact λw a=>⟨n,⟨bW _,rfl⟩,(iK rfl rfl),a⟩
 rintro i ⟨hi,g⟩;refine al ?_;refine aW 9 rfl (λh=>?_) (λh=>?_);have y:0<i:=by have:=aX h;omega
 obtain⟨x,o⟩ : ∃x,l[i - 1]? = some x:=⟨l[i - 1]'aa,bE _⟩;obtain⟨z,B,_,r⟩:=f.at_ o;refine aJ ?_;refine bC (q:=(i - 1)) dv rfl rfl rfl bv aa aa ?_;refine ah ?_;refine a_ bN rfl rfl (λw' j=>j.cu (r 2 _ rfl) av) ?_;refine ay ?_;have d:hQ l i=if x.half=3 then hQ l (i - 1) else i:=by
  conv=>lhs;rw[show i=i - 1+1 by omega]
  rw[hQ,o];simp only[oz,dA];rw[show i - 1+1=i by omega]
 refine aj (λk=>?_) (λk=>?_);rw[aw k] at d
 refine aJ ?_;exact bi (i - 1) ⟨aa,g.trans d⟩ aa (Sub.cons (by rw[show ((i - 1 :Nat):Int)=(i:Int) - 1 by omega];rfl) bR) (λw' j=>j);rw[ag k] at d
 refine bH ?_;intro s a;exact⟨by rw[g,d],a.ext⟩;refine sQ ?_;intro s a;have C:=bd h
 obtain rfl:i=0:=by omega
 exact⟨by rw[g];rfl,a.ext⟩
theorem X9 {L:List bh} {a:Nat}: ∀k,k≤a→iM L a k=none
 | 0,_=>rfl
 | k+1,h=>by rw[iM,aw aa]
theorem KR {to:aY} {k len:Nat} (h:0≤to.cM):0≤fY to k len∧fY to k len≤(len:Int):=by
 unfold fY;split <;> omega
theorem KS (fr:aY) (k:Nat):0≤eT fr k:=by
 unfold eT;split <;> omega
theorem X_ (w:World) (F:Nat→Prop) (A:Option Addr) (n c:Nat) (rows:List bG) (v:ez w F A n c rows) (fr to:aY) (f b l0 l1:Nat) (P:l1≤n) (Q:n≤1000000) (G:0≤to.cM):
 Calls prog 103 [.agg (kn f A n c fr to b).toArray,.agg [.int .i64 (l0:Int),.int .i64 (l1:Int)].toArray].toArray w (λe w'=>e= .returned (.agg (fj rows fr to l0 l1).enc.toArray)∧Ext [] w w'):=by
 have R:=v.len
 refine aV func103 ntmps103 ?_;refine ah ?_;intro r S T;refine ar ?_;intro s U V;refine ar ?_;intro t W X;refine ay ?_;refine ds (q:=1) underlying153 gB rfl rfl rfl bc aa ?_;refine al ?_;refine b2 (ι:=Nat) (λk=>[(5,.int .i64 ((k:Int) - 1)),(2,.pointer (some ⟨r,0,none⟩)),(3,.pointer (some ⟨s,0,none⟩)),(4,.pointer (some ⟨t,0,none⟩))]) (λ_=>af w [] [aD t [.int .i64 0,.int .i64 0] 35,aD s [.int .i64 (l0:Int),.int .i64 (l1:Int)] 153,aD r (kn f A n c fr to b) 150]) (λk=>k≤l1∧fj rows fr to l0 l1=fj rows fr to l0 k) (λk=>k) ?_ ?_;exact λw l=>⟨l1,⟨bW _,rfl⟩,(cj rfl rfl rfl rfl),l⟩
 rintro k ⟨Y,o⟩;refine aS ?_;refine ds (q:=0) underlying153 gB rfl rfl rfl bc aa ?_;refine aS ?_;refine aj (λH=>?_) (λH=>?_);obtain⟨a,rfl⟩ : ∃a,k=a+1:=⟨k - 1,aa⟩;rw[show (((a+1 :Nat):Int) - 1)=(a:Int) by omega];obtain⟨row,z⟩ : ∃row,rows[a]? = some row:=⟨rows[a]'aa,bE _⟩;obtain⟨bY,Z,m,d,Za,_,I,B⟩:=v.at_ z;have Zb:=B.len
 have J:=y3 B
 simp only[maxLen] at J
 have K:dQ rows a=row.1:=by unfold dQ;rw[z];rfl
 obtain⟨Zc,Zd⟩:=KR (k:=a) (len:=row.1.length) G;have Ze:=KS fr a
 rw[fj,ag aa,K] at o
 refine aK ?_;refine ao rfl EK rfl (λw' g=>KQ w' F A n c rows (v.ext g.ext av) fr to f b a row z) ?_;refine cF ?_;refine b2 (ι:=Nat) (λx=>[(8,.int .i64 ((x:Int) - 1)),(2,.pointer (some ⟨r,0,none⟩)),(3,.pointer (some ⟨s,0,none⟩)),(4,.pointer (some ⟨t,0,none⟩)),(5,.int .i64 (a:Int)),(6,.int .i64 (eT fr a))]) (λ_=>af w [] [aD t [.int .i64 0,.int .i64 0] 35,aD s [.int .i64 (l0:Int),.int .i64 (l1:Int)] 153,aD r (kn f A n c fr to b) 150]) (λx=>x≤m∧iM row.1 (eT fr a).toNat (fY to a row.1.length).toNat=iM row.1 (eT fr a).toNat x) (λx=>x) ?_ ?_;exact λw l=>⟨(fY to a row.1.length).toNat,⟨aa,rfl⟩,Sub.cons (by rw[show (((fY to a row.1.length).toNat:Nat):Int)=fY to a row.1.length by omega];rfl) (ec rfl rfl rfl rfl rfl),l⟩
 rintro x ⟨Zf,h⟩;refine aK ?_;refine aj (λL=>?_) (λL=>?_);obtain⟨i,rfl⟩ : ∃i,x=i+1:=⟨x - 1,aa⟩;rw[show (((i+1 :Nat):Int) - 1)=(i:Int) by omega];obtain⟨y,E⟩ : ∃y,row.1[i]? = some y:=⟨row.1[i]'aa,bE _⟩;obtain⟨Zg,Zh,_,M⟩:=B.at_ E;rw[iM,ag aa,E] at h
 refine aJ ?_;refine bC (q:=a) dK rfl rfl rfl bv aa aa ?_;refine ar ?_;refine a_ sx rfl rfl (λw' g=>g.cu (I 0 _ rfl) av) ?_;refine ar ?_;refine bC (q:=i) dv rfl rfl rfl bv aa aa ?_;refine cx j0 rfl rfl (rfl) (λw' g j u N=>g.cu (M j u N) av) ?_;refine ar ?_;intro Zi Zj Zk;refine aJ ?_;refine aW 44 rfl (λC=>?_) (λC=>?_);refine aJ ?_;refine aj (λD=>?_) (λD=>?_);refine hq ?_;intro O l;have p:lj y=true:=by unfold lj;rw[d4];exact⟨C,bX D⟩
 rw[show ((some y).map lj).getD false=lj y from rfl,p,aw rfl] at h
 rw[h] at o
 exact⟨by rw[o];rfl,l.ext⟩;refine aK ?_;have p:lj y=false:=by unfold lj;rw[cg D,Bool.and_false]
 rw[show ((some y).map lj).getD false=lj y from rfl,p,ag aZ] at h
 exact bi i ⟨aa,h⟩ aa bR (λw' g=>g.rem bw.head);refine cF ?_;have p:lj y=false:=by unfold lj;rw[C,Bool.false_and]
 rw[show ((some y).map lj).getD false=lj y from rfl,p,ag aZ] at h
 exact bi i ⟨aa,h⟩ aa bR (λw' g=>g.rem bw.head);refine bp ?_;rw[X9 x aa] at h
 rw[h] at o
 exact bi a ⟨aa,o⟩ aa bR (λw' g=>g);refine bH ?_;intro O l;rw[Qq rows fr to l0 k aa] at o
 exact⟨by rw[o];rfl,l.ext⟩
theorem KT {L:List bh} {row:Nat} {en:aY} {a i:Nat}: ∀j,i≤j→(e5 L row en a i).length≤(e5 L row en a j).length
 | 0,h=>by rw[show i=0 by omega];exact bW _
 | j+1,h=>by
  by_cases b:i=j+1
  rw[b];exact bW _
  have:=KT (L:=L) (row:=row) (en:=en) (a:=a) (i:=i) j aa
  rw[e5,b6];omega
theorem KU {rows:List bG} {fr to en:aY} {l0 i:Nat}: ∀j,i≤j→(gE rows fr to en l0 i).length≤(gE rows fr to en l0 j).length
 | 0,h=>by rw[show i=0 by omega];exact bW _
 | j+1,h=>by
  by_cases a:i=j+1
  rw[a];exact bW _
  have:=KU (rows:=rows) (fr:=fr) (to:=to) (en:=en) (l0:=l0) (i:=i) j aa
  rw[gE,b6];omega
def wo (rows:List bG) (fr to:aY) (l0 l1:Nat):fv:=gE rows fr to (fj rows fr to l0 l1) l0 l1++(if (l1:Int) - 1<to.row then [(10,jI rows (l1:Int))] else [])
theorem Ya (w:World) (F:Nat→Prop) (A:Option Addr) (n c:Nat) (eS:List p2) (f:Nat→List (Int × Int)) (E:Rd lh w F A n c eS) (X:n≤100000)
 (I:f 0=[]) (J: ∀k r,eS[k]? = some r→f (k+1)=nF (f k) k r.cont) (K: ∀k,k≤n→(f k).length≤k):
 Calls prog 64 [.slice A n c].toArray w (λe w'=> ∃v,e= .returned v∧Ext [] w w'∧w'.ownsRow 0 153 2 v (f n).length (mP.all (f n))∧ ∀g,v.ownBlock=some g→w.heap.size≤g):=by
 refine aV func64 ntmps64 ?_;refine jZ 153 2 ?_;refine eL ?_;refine b2 (ι:=Nat × Value × List (Int × Int)) (λi=>[(3,i.2.1),(7,.slice A n c),(8,.int .i64 (n:Int)),(9,.int .i64 (i.1 :Int))]) (λi=>af w [] [own 153 2 i.2.1 i.2.2.length (mP.all i.2.2)]) (λi=>i.1≤n∧i.2.2=f i.1∧ ∀g,i.2.1.ownBlock=some g→w.heap.size≤g) (λi=>n - i.1) ?_ ?_;exact λw x=>⟨(0,.slice none 0 0,[]),⟨bP _,I.symm,by simp[Value.ownBlock]⟩,(cj rfl rfl rfl rfl),x⟩
 rintro⟨k,v,L⟩ ⟨G,b,l⟩;dsimp only at G b l ⊢
 refine al ?_;refine aj (λM=>?_) (λM=>?_);have N:k<n:=by omega
 obtain⟨r,H⟩ : ∃r,eS[k]? = some r:=⟨eS[k]'(by rw[E.len];exact N),bE _⟩;obtain⟨bY,Y,Z,O⟩:=E.cells aa;have Za:L.length≤k:=b▸K k G
 refine hE (v:=v) Has.head (λZb Zc P Zd Ze Zf m=>?_);subst P;refine aC ?_;refine bC dK rfl rfl rfl bv bc aa ?_;refine cx gV rfl rfl ((lh.len r)) (λw' a j u Q=>a.cu (O k r j u H Q) av) ?_;refine ar ?_;intro Zg Zh Zi;refine ey ?_;have y:=J k r H
 refine aW 18 rfl (λz=>?_) (λz=>?_);have B:=aX z
 refine aC ?_;refine b1 rfl (λd=>?_) (λd=>?_);obtain⟨g,rfl⟩:=m aa;obtain⟨p,ai⟩ : ∃p,L[L.length - 1]? = some p:=⟨L[L.length - 1]'aa,bE _⟩;have R:=mP.pF (j:=1) (a':=(p.1,(k:Int)+1)) (v:= .int .i64 ((k:Int)+1)) ai aZ rfl
 have s:nF L k r.cont=L.set (L.length - 1) (p.1,(k:Int)+1):=by
  rw[bE aa] at ai
  simp only[dA] at ai
  have t:L≠[]:=λe=>by subst e;simp at B
  have S:L.getLast?=some p:=by rw[wC t,List.getLast_eq_getElem,ai]
  simp only[nF,S,d,if_true];rw[qN,aw aa,List.dropLast_eq_take,show L.length - 1+1=L.length by omega,List.drop_length]
 refine aC ?_;refine bC (q:=(L.length - 1)) sy rfl rfl rfl bc aa aa ?_;refine qW (q:=1) underlying153 gB rfl rfl rfl aa aa ?_;refine k4 (o:=(L.length - 1)*2+1) bN rfl rfl (by exact bn.tail bn.head) (by simp[Addr.add_lit]) rfl (by rw[mP.dI];show _<L.length*2;omega) ?_;refine aQ ?_;refine bi (k+1,_,L.set (L.length - 1) (p.1,(k:Int)+1)) ⟨aa,by rw[y,←b,s],l⟩ aa (cj rfl rfl rfl rfl) (λw' a=>?_);have:=a.rem bw.head
 rw[show (L.length - 1)*2+1=(L.length - 1)*mP.sz+1 from rfl,R] at this
 simpa using this
 have s:nF L k r.cont=L++[((k:Int),(k:Int)+1)]:=by
  have t:L≠[]:=λe=>by subst e;simp at B
  simp only[nF,wC t,d];rfl
 refine aJ ?_;intro T U V;refine gx sy rfl rfl rfl bj (λ_=>by exact ew) rfl (xm rfl rfl) (by simp only[maxLen];omega) aa (λC D=>?_);refine aK ?_;refine bi (k+1,C,L++[((k:Int),(k:Int)+1)]) ⟨aa,by rw[y,←b,s],λg m=>by
  rcases D g m with h | h
  exact l g h;exact h.1⟩ aa (cj rfl rfl rfl rfl) (λw' a=>?_)
 have:=a.rem bw.head
 rw[b6,bA.hn];exact this;have B:=bd z
 refine ay ?_;refine b1 rfl (λd=>?_) (λd=>?_);exact absurd d aZ;have s:nF L k r.cont=L++[((k:Int),(k:Int)+1)]:=by
  have t:L=[]:=iC aa
  subst t;rfl
 refine aJ ?_;intro T U V;refine gx sy rfl rfl rfl bj (λ_=>by exact ew) rfl (xm rfl rfl) (by simp only[maxLen];omega) aa (λC D=>?_);refine aK ?_;refine bi (k+1,C,L++[((k:Int),(k:Int)+1)]) ⟨aa,by rw[y,←b,s],λg m=>by
  rcases D g m with h | h
  exact l g h;exact h.1⟩ aa (cj rfl rfl rfl rfl) (λw' a=>?_)
 have:=a.rem bw.head
 rw[b6,bA.hn];exact this;refine bH ?_;intro Zj x;have W:k=n:=by omega
 subst W;rw[←b];exact⟨_,rfl,x.ext,x.has Has.head,l⟩
theorem Yb (w:World) (F:Nat→Prop) (A:Option Addr) (n c:Nat) (rows:List bG) (a:ez w F A n c rows) (b:n≤100000):
 Calls prog 64 [.slice A n c].toArray w (λe w'=> ∃v,e= .returned v∧Ext [] w w'∧w'.ownsRow 0 153 2 v (jl rows n).length (mP.all (jl rows n))∧ ∀g,v.ownBlock=some g→w.heap.size≤g):=by
 obtain⟨eS,d,f,_⟩:=a.hC;refine Ya w F A n c eS (jl rows) d b rfl (λk r h=>?_) (λk _=>AL rows k);have:nG rows k=r.cont:=by
  have:=aU (λl=>l[k]?) f
  simp only[eD,h,oz] at this
  unfold nG;rw[←this];rfl
 rw[jl,this]
theorem Yc {α a:Type} (f:α→List a) {L:List α} {i:Nat}: ((L.take i).flatMap f).length≤(L.flatMap f).length:=by
 conv=>rhs;rw[←iF i L,un,b6]
 omega
theorem KV {rows:List bG} {fr to:aY} {s e:Int} {l0 l1:Nat} (a:max s fr.row=(l0:Int)) (b: (l0:Int)<e) (c: (l0:Int)≤to.row) (d: (l1:Int)=if to.row<rows.length∧to.row+1<e then to.row+1 else e):
 e6 rows fr to (s,e)=wo rows fr to l0 l1:=by
 unfold e6 wo;dsimp only;rw[a,aw ⟨b,c⟩,←d];rfl
theorem Yd {rows:List bG} {fr to:aY} {s e:Int} (h: ¬(max s fr.row<e∧max s fr.row≤to.row)):e6 rows fr to (s,e)=[]:=ag h
def y4 (f b M:Nat) {ι:Type} (X:ι→Chunk) (ok:fv→ι→Prop):Prop:= ∀(a:World) (s:fv) (i:ι) (t:List UInt8) (p:aY),ok s i→s.length+t.length≤M→a8 a [X i]→
 Calls prog f (([]:List Value)++[Value.string (bs t),d_ p]++[ptr b]).toArray a (aP (λ_:ι=> .tuple #[]) [X i] (λj=>[X j]) (λj=>ok (s++lX p t) j) a)
set_option maxHeartbeats 1000000 in
theorem KW (w:World) {ι:Type} (X:ι→Chunk) (ok:fv→ι→Prop) (g:ι) (A:Option Addr) (n c:Nat) (rows:List bG) (t:ez w (λk=>k∉aB [X g]) A n c rows) (fr to:aY) (f b M:Nat) (Za:ad prog f) (Zb:y4 f b M X ok) (s:fv) (l0 l1:Nat) (ZJ:l0<l1) (Zj:l1≤n) (Zk:n≤1000000) (Zc:0≤to.cM)
 (Zl: ∀row∈rows,∀x∈row.1,x.more.length≤1000000) (p:s.length+(wo rows fr to l0 l1).length≤M) (Zm:a8 w [X g]) (Zn:ok s g):
 Calls prog 65 [.agg (kn f A n c fr to b).toArray,.agg [.int .i64 (l0:Int),.int .i64 (l1:Int)].toArray].toArray w (aP (λ_:ι=> .tuple #[]) [X g] (λj=>[X j]) (λj=>ok (s++wo rows fr to l0 l1) j) w):=by
 have ZK:=t.len
 refine bI func65 ntmps65 Zm ?_;refine ah ?_;intro v ZL ZM;refine ar ?_;intro B ZN ZO;refine al ?_;refine ao rfl No rfl (λw' e=>X_ w' _ A n c rows (t.ext e.ext (λ_ h=>h)) fr to f b l0 l1 Zj Zk Zc) ?_;refine ar ?_;intro C ZP ZQ;refine al ?_;refine ds (q:=0) underlying153 gB rfl rfl rfl bc aa ?_;refine ay ?_;unfold wo at p ⊢
 obtain⟨en,Zd⟩ : ∃en,en=fj rows fr to l0 l1:=⟨_,rfl⟩;rw[←Zd] at p ⊢
 refine b2 (ι:=Nat × ι) (λq=>[(5,.int .i64 (q.1 :Int)),(2,ptr v),(3,ptr B),(4,ptr C)]) (λq=>af w (aB [X g]) [X q.2,aD C en.enc 35,aD B [.int .i64 (l0:Int),.int .i64 (l1:Int)] 153,aD v (kn f A n c fr to b) 150]) (λq=>(l0≤q.1∧q.1≤l1)∧ok (s++gE rows fr to en l0 q.1) q.2) (λq=>l1 - q.1) ?_ ?_;exact λw' e=>⟨(l0,g),⟨⟨bW _,by dsimp only;omega⟩,by rw[u5 rows fr to en l0 l0 (bW _),eu];exact Zn⟩,(cj rfl rfl rfl rfl),(e.ax (l:=[X g,aD C en.enc 35,aD B [.int .i64 (l0:Int),.int .i64 (l1:Int)] 153,aD v (kn f A n c fr to b) 150]) (by rw[Zd];exact ae))⟩
 rintro⟨k,G⟩ ⟨⟨Zo,Zp⟩,H⟩;dsimp only at Zo Zp H ⊢
 refine aS ?_;refine ds (q:=1) underlying153 gB rfl rfl rfl bc aa ?_;refine aS ?_;refine aj (λZq=>?_) (λZq=>?_);obtain⟨row,o⟩ : ∃row,rows[k]? = some row:=⟨rows[k]'aa,bE _⟩;obtain⟨bY,N,m,d,O,P,Q,r⟩:=t.at_ o;have ZR:=r.len
 have Zr:=y3 r
 simp only[maxLen] at Zr
 have Ze:dQ rows k=row.1:=by unfold dQ;rw[o];rfl
 obtain⟨ZS,ZT⟩:=KR (k:=k) (len:=row.1.length) Zc;have ZU:=KS fr k
 have Zs:=KU (rows:=rows) (fr:=fr) (to:=to) (en:=en) (l0:=l0) (i:=k+1) l1 aa
 rw[gE,ag aa,Ze,b6] at Zs
 refine aK ?_;refine ao rfl EK rfl (λw' e=>KQ w' _ A n c rows (t.ext e.ext (λ_ h=>h)) fr to f b k row o) ?_;refine b7 ?_;refine b2 (ι:=Nat × ι) (λq=>[(8,.int .i64 (q.1 :Int)),(2,ptr v),(3,ptr B),(4,ptr C),(5,.int .i64 (k:Int)),(7,.int .i64 (fY to k row.1.length))]) (λq=>af w (aB [X g]) [X q.2,aD C en.enc 35,aD B [.int .i64 (l0:Int),.int .i64 (l1:Int)] 153,aD v (kn f A n c fr to b) 150]) (λq=>((eT fr k).toNat≤q.1∧(q.1≤(fY to k row.1.length).toNat∨q.1=(eT fr k).toNat))∧ok (s++gE rows fr to en l0 k++e5 row.1 k en (eT fr k).toNat q.1) q.2) (λq=>m - q.1) ?_ ?_;exact λw' e=>⟨((eT fr k).toNat,G),⟨⟨bW _,.inr rfl⟩,by rw[rh _ _ _ _ _ (bW _),eu];exact H⟩,Sub.cons (by rw[show (((eT fr k).toNat:Nat):Int)=eT fr k by omega];rfl) (ec rfl rfl rfl rfl rfl),e⟩
 rintro⟨x,D⟩ ⟨⟨Zt,Zf⟩,E⟩;dsimp only at Zt Zf E ⊢
 refine aK ?_;refine aj (λZu=>?_) (λZu=>?_);obtain⟨y,R⟩ : ∃y,row.1[x]? = some y:=⟨row.1[x]'aa,bE _⟩;obtain⟨ZV,Zv,Zw,Zx⟩:=r.at_ R;have Zy:=Zl row (da o) y (da R)
 have S:e5 row.1 k en (eT fr k).toNat (x+1)=e5 row.1 k en (eT fr k).toNat x++mQ k en x y:=by rw[e5,ag aa,R]
 have Zz:=KT (L:=row.1) (row:=k) (en:=en) (a:=(eT fr k).toNat) (i:=x+1) (fY to k row.1.length).toNat aa
 rw[S,b6] at Zz
 have Zg:y.half≠3∧eA ⟨(k:Int),(x:Int)⟩ en=true→mQ k en x y=lX ⟨(k:Int),(x:Int)⟩ (jH y):=λh=>by unfold mQ;rw[aw h]
 have Zh: ¬(y.half≠3∧eA ⟨(k:Int),(x:Int)⟩ en=true)→e5 row.1 k en (eT fr k).toNat (x+1)=e5 row.1 k en (eT fr k).toNat x:=λh=>by rw[S,mQ,ag h,eu]
 have ZA: ∀z:List UInt8,mQ k en x y=lX ⟨(k:Int),(x:Int)⟩ z→(s++gE rows fr to en l0 k++e5 row.1 k en (eT fr k).toNat x).length+z.length≤M:=λz ZB=>by
  rw[←Gu ⟨(k:Int),(x:Int)⟩ z,←ZB];simp only[b6] at p ⊢
  omega
 refine aQ ?_;intro ZW ZX ZY;refine aK ?_;refine bC (q:=k) dK rfl rfl rfl O rfl aa ?_;refine ar ?_;refine a_ sx rfl rfl (λZC T=>T.cu (Q 0 _ rfl) (by simp only[block_add];exact P)) ?_;refine ar ?_;refine bC (q:=x) dv rfl rfl rfl Zv rfl aa ?_;refine cx (vs:=y.enc) j0 rfl rfl rfl (λZC T j u U=>T.cu (Zx j u U) (by simp only[block_add];exact Zw)) ?_;refine ar ?_;intro ZZ Z0 Z1;refine aJ ?_;refine aW 50 rfl (λI=>?_) (λI=>?_);have V:=aX I
 refine ay ?_;refine ao rfl uJ rfl (λF J=>vY F ⟨(k:Int),(x:Int)⟩ en) ?_;refine ah ?_;refine aj (λaH=>?_) (λaH=>?_);simp only[bZ] at aH
 refine bF [0,1,2,4] 2 [[(3,false,[]),(5,true,[])]] ?_;refine al ?_;refine ao rfl Np rfl (λw' _=>Qv w' y Zy) ?_;refine ah ?_;refine lU (l0:=[X D]) (first:=[]) (cap:=[ptr b]) ae rfl rfl Za rfl (λF J=>Zb F _ D (jH y) ⟨(k:Int),(x:Int)⟩ E (ZA _ (Zg ⟨V,bX aH⟩)) (J.bo ae)) (λW K=>?_);refine aQ ?_;exact bi (x+1,W) ⟨⟨by dsimp only;omega,.inl bm⟩,by dsimp only;rw[S,Zg ⟨V,bX aH⟩,←ea];exact K⟩ bm bR (λ_ h=>h.ax ae);simp only[bZ] at aH
 refine aK ?_;exact bi (x+1,D) ⟨⟨by dsimp only;omega,.inl bm⟩,(Zh (λh=>aH (aX h.2))).symm▸E⟩ bm bR (λ_ h=>h.ax ae);have V:=bd I
 refine cF ?_;exact bi (x+1,D) ⟨⟨by dsimp only;omega,.inl bm⟩,(Zh (λh=>(bd I) h.1)).symm▸E⟩ bm bR (λ_ h=>h.ax ae);have ZD:e5 row.1 k en (eT fr k).toNat x=e5 row.1 k en (eT fr k).toNat (fY to k row.1.length).toNat:=by
  rcases Zf with h | h
  rw[show x=(fY to k row.1.length).toNat by omega];rw[h,rh _ _ _ _ _ (bW _),rh _ _ _ _ _ aa]
 refine bp ?_;exact bi (k+1,D) ⟨⟨by dsimp only;omega,by dsimp only;omega⟩,by dsimp only;rw[gE,ag aa,Ze,←ea,←ZD];exact E⟩ bm bR (λ_ h=>h.ax ae);have ZE:k=l1:=by omega
 subst ZE;obtain⟨row,o⟩ : ∃row,rows[k - 1]? = some row:=⟨rows[k - 1]'aa,bE _⟩;obtain⟨bY,N,m,d,O,P,Q,r⟩:=t.at_ o;refine aC ?_;refine ds (q:=1) underlying153 gB rfl rfl rfl bc aa ?_;refine b7 ?_;refine aj (λY=>?_) (λY=>?_);rw[aw Y] at p ⊢
 refine bF [0,1,2,3,4,5,6,7] 2 [[(8,false,[9]),(10,true,[])]] ?_;refine al ?_;refine aL rfl (λZF Zi=>(bC (q:=k - 1) dK rfl rfl rfl O aa aa aG)) ?_;refine aL rfl (λZF Zi=>(cx (vs:=[.slice N m d,.bool row.2]) gV rfl rfl rfl (λZ2 ZG j u U=>by subst ZG;exact Zi.cu (Q j u U) (by simp only[block_add];exact P)) aG)) ?_;refine aq ?_;refine ao rfl Nq rfl (λw' e=>X8 w' _ N m d row.1 row.2 (r.ext e.ext (λ_ h=>h))) ?_;refine aS ?_;refine lU (l0:=[X G]) (first:=[]) (cap:=[ptr b]) ae rfl rfl Za rfl (λF J=>Zb F _ G [10] ⟨(k:Int) - 1,(hQ row.1 m:Int)⟩ H (by simp only[b6,jY] at p ⊢;omega) (J.bo ae)) (λW K=>?_);refine aS ?_;intro ZH Z;exact aN W (by rw[ea] at K;have ZI:jI rows (k:Int)=⟨(k:Int) - 1,(hQ row.1 m:Int)⟩:=(by unfold jI;rw[show ((k:Int) - 1).toNat=k - 1 by omega,show dQ rows (k - 1)=row.1 by (unfold dQ;rw[o];rfl),r.len]);rw[ZI];exact K) Z;rw[ag Y,eu] at p ⊢
 refine aq ?_;intro ZH Z;exact aN G H Z
structure wq where
 A:Option Addr
 c:Nat
 l:List (Int × Int)
abbrev wq.val (r:wq):Value:= .slice r.A r.l.length r.c
abbrev wq.au (r:wq):Chunk:=Mq.au 153 mP r.A r.c r.l
theorem KX (w:World) (F:Nat→Prop) (A:Option Addr) (n c:Nat) (rows:List bG) (g:ez w F A n c rows) (h:n≤100000):
 Calls prog 64 [.slice A n c].toArray w (aP (λz:wq=>z.val) [] (λz=>[z.au]) (λz=>z.l=jl rows n) w):=by
 refine (Yb w F A n c rows g h).mono ?_;rintro e w' ⟨v,rfl,i,a,j⟩;obtain⟨m,d,rfl⟩:=wJ a;refine aP.bQ ⟨m,d,jl rows n⟩ rfl rfl ⟨i,?_,λc b=>?_,λk f o=>?_⟩;simp only[aB,jX,r5,eu];exact uE _ _ _ _ _;rw[eb] at b;subst b;exact a
 simp only[aB,jX,r5,eu] at f
 have:=j k (jb.1 f)
 omega
theorem ez.apart {b w:World} {ι:Type} {X:ι→Chunk} {d y:ι} {cs:List Chunk} {A:Option Addr} {n c:Nat} {rows:List bG} (f:ez b (λk=>k∉aB [X d]) A n c rows) (h:af b (aB [X d]) cs w) (g:Has cs (X y)):ez w (λk=>k∉aB [X y]) A n c rows:=by
 refine (f.hI.ext h.ext (λk a=>a.1)).dC (λk a e=>a.1 (h.ek k ?_ a.2));rw[show aB [X y]=(X y).ch by simp[aB]] at e
 exact e_.2 ⟨X y,g.mem,e⟩
set_option maxHeartbeats 1000000 in
theorem KY (w:World) {ι:Type} (X:ι→Chunk) (ok:fv→ι→Prop) (m:ι) (A:Option Addr) (n c:Nat) (rows:List bG) (K:ez w (λk=>k∉aB [X m]) A n c rows) (fr to:aY) (f b M:Nat) (V:ad prog f) (W:y4 f b M X ok) (Zg:n≤100000) (Zw:0≤fr.row∧fr.row≤4398046511104) (Y:0≤to.cM) (Zx:0≤to.row∧to.row≤4398046511104)
 (Z: ∀row∈rows,∀x∈row.1,x.more.length≤1000000) (N: (hR rows fr to).length≤M) (Zh:a8 w [X m]) (Za:ok [] m):
 Calls prog 31 [.slice A n c,d_ fr,d_ to,.func (.func f) #[] #[ptr b]].toArray w (aP (λ_:ι=> .tuple #[]) [X m] (λj=>[X j]) (λj=>ok (hR rows fr to) j) w):=by
 have Zi:=K.len
 have Zj:p6 fr=fr:=by unfold p6;rw[ag aa]
 unfold hR at N ⊢
 rw[Zj,Zi] at N ⊢
 refine bI func31 ntmps31 Zh ?_;refine ah ?_;intro C Zy Zz;refine ar ?_;intro D ZA ZB;refine aQ ?_;refine aj (λZb=>?_) (λZb=>?_);exact absurd Zb aa;refine aC ?_;refine ao rfl uJ rfl (λa d=>vY a fr to) ?_;refine ah ?_;refine b1 rfl (λF=>?_) (λF=>?_);refine ah ?_;intro Zk Q;rw[ag (λe=>by rw[e] at F;exact absurd F aZ)];exact aN m Za Q;have Zl:eA fr to=true:=by rw[Bool.not_eq_false'] at F;exact F
 rw[aw Zl] at N ⊢
 refine aQ ?_;intro G ZC ZD;refine al ?_;refine a6 (l0:=[]) aA.nil rfl Ez rfl (λa d=>KX a _ A n c rows (K.ext d.ext (λ_ h=>h)) Zg) (λz Zm=>?_);refine ay ?_;have Zc:=u3 rows n
 have Zn:=AL rows n
 rw[←Zm] at N Zc Zn ⊢
 refine b2 (ι:=Nat × ι) (λq=>[(27,.int .i64 (q.1 :Int)),(0,.slice A n c),(5,ptr C),(6,ptr D),(8,ptr G),(25,z.val),(26,.int .i64 (z.l.length:Int))]) (λq=>af w (aB [X m]) [X q.2,z.au,aD G (kn f A n c fr to b) 150,aD D to.enc 35,aD C fr.enc 35]) (λq=>q.1≤z.l.length∧ok ((z.l.take q.1).flatMap (e6 rows fr to)) q.2) (λq=>z.l.length - q.1) ?_ ?_;exact λw' Zo=>⟨(0,m),⟨bP _,Za⟩,(gX rfl rfl rfl rfl rfl rfl rfl),Zo.ax (l:=[X m,z.au,aD G (kn f A n c fr to b) 150,aD D to.enc 35,aD C fr.enc 35]) ae⟩
 rintro⟨i,y⟩ ⟨hi,o⟩;dsimp only at hi o ⊢
 refine al ?_;refine aj (λZp=>?_) (λZp=>?_);obtain⟨p,ai⟩ : ∃p,z.l[i]? = some p:=⟨z.l[i]'aa,bE _⟩;obtain⟨r,g,rfl,ZE,ZF⟩:=Gv z.l 0 Zc p (da ai);have O: (z.l.take (i+1)).flatMap (e6 rows fr to)=(z.l.take i).flatMap (e6 rows fr to)++e6 rows fr to ((r:Int),(g:Int)):=by rw[kC ai,un];simp
 have Zd: ((z.l.take i).flatMap (e6 rows fr to)).length+(e6 rows fr to ((r:Int),(g:Int))).length≤M:=by
  have:=Yc (e6 rows fr to) (L:=z.l) (i:=i+1)
  rw[O,b6] at this
  omega
 obtain⟨l0,P⟩ : ∃l0:Nat,max (r:Int) fr.row=(l0:Int):=⟨(max (r:Int) fr.row).toNat,aa⟩;obtain⟨t,Zq⟩ : ∃t:Nat,to.row+1=(t:Int):=⟨(to.row+1).toNat,aa⟩;have Ze: ¬((l0:Int)<g∧(l0:Int)≤to.row)→ok ((z.l.take (i+1)).flatMap (e6 rows fr to)) y:=λh=>by
  rw[O,Yd (λe=>h (by rw[P] at e;exact e)),eu];exact o
 have Zr: ∀(B:Nat) (a:World),af w (aB [X m]) [aD B [.int .i64 (l0:Int),.int .i64 (t:Int)] 153,X y,z.au,aD G (kn f A n c fr to b) 150,aD D to.enc 35,aD C fr.enc 35] a→(l0:Int)<g∧(l0:Int)≤to.row∧to.row<n∧to.row+1<g→Calls prog 65 [.agg (kn f A n c fr to b).toArray,.agg [.int .i64 (l0:Int),.int .i64 (t:Int)].toArray].toArray a (aP (λ_:ι=> .tuple #[]) [X y] (λj=>[X j]) (λj=>ok ((z.l.take (i+1)).flatMap (e6 rows fr to)) j) a):=λB a d h=>by
  have H:=KV (rows:=rows) (fr:=fr) (to:=to) (s:=(r:Int)) (e:=(g:Int)) (l0:=l0) (l1:=t) P h.1 h.2.1 (by rw[aw ⟨aa,aa⟩];omega)
  rw[O,H];exact KW a X ok y A n c rows (K.apart d bJ) fr to f b M V W _ l0 t aa aa aa Y Z (by rw[←H];exact Zd) (d.bo ae) o
 have Zf: ∀(B:Nat) (a:World),af w (aB [X m]) [aD B [.int .i64 (l0:Int),.int .i64 (g:Int)] 153,X y,z.au,aD G (kn f A n c fr to b) 150,aD D to.enc 35,aD C fr.enc 35] a→(l0:Int)<g∧(l0:Int)≤to.row∧ ¬(to.row<n∧to.row+1<g)→Calls prog 65 [.agg (kn f A n c fr to b).toArray,.agg [.int .i64 (l0:Int),.int .i64 (g:Int)].toArray].toArray a (aP (λ_:ι=> .tuple #[]) [X y] (λj=>[X j]) (λj=>ok ((z.l.take (i+1)).flatMap (e6 rows fr to)) j) a):=λB a d h=>by
  have H:=KV (rows:=rows) (fr:=fr) (to:=to) (s:=(r:Int)) (e:=(g:Int)) (l0:=l0) (l1:=g) P h.1 h.2.1 (by rw[ag (λe=>h.2.2 ⟨aa,aa⟩)])
  rw[O,H];exact KW a X ok y A n c rows (K.apart d bJ) fr to f b M V W _ l0 g aa aa aa Y Z (by rw[←H];exact Zd) (d.bo ae) o
 refine al ?_;refine jr (E:=mP) bJ sy rfl rfl rfl bc aa (λZG Zs=>?_);refine cx zF rfl rfl rfl (λZH R j u Zt=>R.gJ (E:=mP) bJ Zs bv j u Zt) ?_;refine ar ?_;intro B ZI ZJ;refine ay ?_;refine ds (q:=0) underlying153 gB rfl rfl rfl bc aa ?_;refine aS ?_;refine ds (q:=0) underlying153 gB rfl rfl rfl bc aa ?_;refine aS ?_;rw[P];refine ar ?_;refine ds (q:=0) underlying153 gB rfl rfl rfl bc aa ?_;refine ar ?_;refine ds (q:=1) underlying153 gB rfl rfl rfl bc aa ?_;refine ah ?_;refine aW 42 rfl (λS=>?_) (λS=>?_);have Zu:=aX S
 refine ar ?_;refine ds (q:=0) underlying153 gB rfl rfl rfl bc aa ?_;refine bp ?_;refine aj (λaH=>?_) (λaH=>?_);refine aJ ?_;refine aW 54 rfl (λT=>?_) (λT=>?_);have Zv:=aX T
 refine ar ?_;refine ds (q:=1) underlying153 gB rfl rfl rfl bc aa ?_;refine bH ?_;refine aj (λU=>?_) (λU=>?_);simp only[bZ] at U
 refine aS ?_;refine ds (q:=1) underlying153 gB rfl rfl rfl bc aa ?_;rw[Zq];refine al ?_;refine a6 (ι:=ι) (v:=λ_=> .tuple #[]) (l':=λj=>[X j]) (ok:=λj=>ok ((z.l.take (i+1)).flatMap (e6 rows fr to)) j) (l0:=[X y]) ae rfl zP rfl (λa d=>by (have R:to.row<n∧to.row+1<g:=aa;exact Zr _ a d ⟨aa,aa,R⟩)) (λI J=>?_);refine aC ?_;exact bi (i+1,I) ⟨by dsimp only;omega,J⟩ bm bR (λ_ h=>h.ax ae);simp only[bZ] at U
 refine ay ?_;refine a6 (ι:=ι) (v:=λ_=> .tuple #[]) (l':=λj=>[X j]) (ok:=λj=>ok ((z.l.take (i+1)).flatMap (e6 rows fr to)) j) (l0:=[X y]) ae rfl zP rfl (λa d=>by exact Zf _ a d ⟨aa,aa,aa⟩) (λI J=>?_);refine aC ?_;exact bi (i+1,I) ⟨by dsimp only;omega,J⟩ bm bR (λ_ h=>h.ax ae);have Zv:=bd T
 refine cF ?_;refine a6 (ι:=ι) (v:=λ_=> .tuple #[]) (l':=λj=>[X j]) (ok:=λj=>ok ((z.l.take (i+1)).flatMap (e6 rows fr to)) j) (l0:=[X y]) ae rfl zP rfl (λa d=>by exact Zf _ a d ⟨aa,aa,aa⟩) (λI J=>?_);refine aC ?_;exact bi (i+1,I) ⟨by dsimp only;omega,J⟩ bm bR (λ_ h=>h.ax ae);refine aC ?_;exact bi (i+1,y) ⟨by dsimp only;omega,Ze aa⟩ bm bR (λ_ h=>h.ax ae);have Zu:=bd S
 refine dB ?_;exact bi (i+1,y) ⟨by dsimp only;omega,Ze aa⟩ bm bR (λ_ h=>h.ax ae);refine ay ?_;intro Zk Q;exact aN y (by rw[ev aa] at o;exact o) Q
def tM:Shelf.Ren:=⟨λ| 166=>33 | 169=>34 | 240=>66 | 276=>107 | n=>n,λ| 0=>0 | 3=>3 | 4=>4 | 5=>5 | 9=>9 | 20=>20 | 37=>51 | 70=>75 | 72=>77 | 75=>80 | 80=>84 | 127=>155 | 164=>218 | n=>n,λn=>n⟩
theorem yG:Lays.n169 prog tM where
 mixed:=by kernel_rfl
 f169:=func34.trans (aU some ab)
 t0:=underlying0
 a0:=isAgg0
 z0:=sizeOf0
 v0:=zeroValue0
 t3:=underlying3
 a3:=isAgg3
 z3:=sizeOf3
 v3:=zeroValue3
 t9:=underlying9
 a9:=isAgg9
 z9:=sizeOf9
 v9:=zeroValue9
 t37:=underlying51
 a37:=isAgg51
 z37:=sizeOf51
 v37:=zeroValue51
 t70:=underlying75
 a70:=isAgg75
 z70:=sizeOf75
 v70:=zeroValue75
 t72:=underlying77
 a72:=isAgg77
 z72:=sizeOf77
 v72:=zeroValue77
 t127:=underlying155
 a127:=isAgg155
 z127:=sizeOf155
 v127:=zeroValue155
theorem vN:Builder.Extra prog tM where
 sizeBuilder:=by kernel_rfl
 liesBuilder:=by kernel_rfl
 t5:=underlying5
 a5:=isAgg5
 z5:=sizeOf5
 v5:=zeroValue5
 infoByte:=by kernel_rfl
 cellsByte:=by kernel_rfl
 sizeByte:=by kernel_rfl
 neB5:=aX ab
def KZ (a:World) (b:Nat) (s:List UInt8) (w':World):Prop:=Ext [] a w'∧Lib.IsBuilderF 77 5 a.heap.size b (Lib.byteCells s) w'
theorem Ext.vO {w w' b:World} (h:Ext [] w w') (a:Below w.heap.size w' b):Ext [] w b:=
 ⟨a.os.trans h.os,a.tape.trans h.tape,a.output.trans h.output,fp h.size a.size,λk c d=>(a.block k c).trans (h.block k c d)⟩
theorem Ye (a:World) (b:Nat) (s:List UInt8) (w':World) (h:KZ a b s w'):
 Calls prog 34 [.pointer (some ⟨b,0,none⟩)].toArray w' (λe c=>e= .returned (.string (bs s))∧Ext [] a c):=by
 refine Calls.mono (Any.Builder_String_any_k yG vN a.heap.size b s w' h.2 h.1.size) ?_;rintro e c ⟨rfl,_,d,_⟩;exact⟨rfl,Ext.vO h.1 d⟩
theorem Cu:ad prog 34:=ad.of func34 ab ab
abbrev iy (bM:Option Addr) (v:Value):List Value:=[.pointer bM,v]
abbrev wr (g:Nat) (bM:Option Addr) (z:is):Chunk:=aR [aD g (iy bM z.val) 77,z.au]
theorem Yf (w:World) (g:Nat) (bM:Option Addr) (v:Value) (c:a8 w [aD g (iy bM v) 77]) (d:bM=none∨bM=some ⟨g,0,none⟩):Calls prog 66 [ptr g].toArray w
 (aP (λ_:Unit=> .tuple #[]) [aD g (iy bM v) 77] (λ_=>[aD g (iy (some ⟨g,0,none⟩) v) 77]) (λ_=>True) w):=by
 have hi: ∃j,prog.info? 77=some j∧j.size≠0:=by
  have h: (prog.info? 77).map (λj=>Nat.beq j.size 0)=some false:=by kernel_rfl
  cases a:prog.info? 77 with
  | none=>rw[a] at h;cases h
  | some j=>
   rw[a] at h
   refine⟨j,rfl,λf=>?_⟩;simp[f] at h
 obtain⟨j,a,i⟩:=hi;have k:liesAt prog prog.depth 77 (2/prog.cellsOf 77) 0 77 1=true:=by kernel_rfl
 refine calls (n:=20) func66 rfl ntmps66 rfl ?_;refine cH ?_ (Sub.refl _) c.start;rcases d with rfl | rfl
 refine bH ?_;refine ID underlying75 underlying218 a i (xs:=_) aT (show 0<2 by decide) rfl rfl ?_;refine xh rfl rfl (λp _=>by rw[run_callFunc_extern func107 ab ab ab (e:=Extern.AbiNoEscape.same) ab];rw[Lib.run_noEscape];rfl) ?_;refine IE (m:=2) (o:=0) underlying218 underlying75 a (xs:=_) aT rfl k rfl rfl ?_;refine ay ?_;intro l b;exact aN () a1 b;refine ey ?_;refine IF underlying75 a rfl rfl rfl ?_;refine ay ?_;intro l b;exact aN () a1 b
theorem Yg (w:World) (g:Nat) (bM:Option Addr) (z:is) (a:a8 w [aD g (iy bM z.val) 77,z.au]) (b:bM=none∨bM=some ⟨g,0,none⟩) (s:List UInt8) (c:z.l.length+s.length≤140737488355328):Calls prog 33 [ptr g,.string (bs s)].toArray w
 (aP (λ_:is=> .tuple #[.int .i64 (s.length:Int),.nilIface]) [aD g (iy bM z.val) 77,z.au] (λy=>[aD g (iy (some ⟨g,0,none⟩) y.val) 77,y.au]) (λy=>y.l=z.l++s) w):=by
 refine calls (n:=19) func33 rfl ntmps33 rfl ?_;refine cH (H':=af w (aB [aD g (iy bM z.val) 77,z.au]) [aD g (iy bM z.val) 77,z.au]) ?_ (Sub.refl _) a.start;refine aJ ?_;refine cJ (λd e=>Yf d g bM z.val e b) (λ_ _=>?_);refine aQ ?_;refine IG ft ab underlying9 rfl rfl rfl (λ_ _=>ew) c (λdG c9=>?_);refine cF ?_;intro h f;exact aN ⟨dG,c9,z.l++s⟩ rfl f
structure y5 where
 bM:Option Addr
 z:is
theorem Yh (g M:Nat) (m:M≤140737488355328):y4 32 g M (λi:y5=>wr g i.bM i.z) (λs i=>(i.bM=none∨i.bM=some ⟨g,0,none⟩)∧i.z.l=s.map Prod.fst):=by
 intro c s ⟨bM,z⟩ t p a o b;dsimp only at a b ⊢
 have b:=b.i7
 refine Calls.mono ?_ (λe w' h=>aP.star (l:=[aD g (iy bM z.val) 77,z.au]) (v:=λ_:y5=>Value.tuple #[]) (l':=λj=>[aD g (iy j.bM j.z.val) 77,j.z.au]) (ok:=λj=>(j.bM=none∨j.bM=some ⟨g,0,none⟩)∧j.z.l=(s++lX p t).map Prod.fst) h);refine calls (n:=7) func32 rfl ntmps32 rfl ?_;refine cH (H':=af c (aB [aD g (iy bM z.val) 77,z.au]) [aD g (iy bM z.val) 77,z.au]) ?_ (Sub.refl _) b.start;refine ah ?_;intro q r u;refine aS ?_;refine a6 (l0:=[aD g (iy bM z.val) 77,z.au]) ae rfl Er rfl (λc d=>Yg c g bM z (d.bo ae) a.1 t (by rw[a.2,cB];omega)) (λy f=>?_);refine aq ?_;intro w k;exact aN ⟨some ⟨g,0,none⟩,y⟩ ⟨.inr rfl,by rw[f,a.2,fQ,lX,mC];exact aU _ (List.map_id t).symm⟩ k
theorem Yi {w w':World} {g:Nat} {bM:Option Addr} {z:is} (h:af w [] [aD g (iy bM z.val) 77,z.au] w') (p:bM=none∨bM=some ⟨g,0,none⟩):KZ w g z.l w':=by
 have d:w.heap.size≤g:=by
  rcases ej g w.heap.size with a | b
  exact absurd (h.ek g (by simp[aB,aD]) a) av;exact b
 have e:=h.nodup
 have f:w'.ownsRow 0 5 1 z.val z.l.length (cz.all z.l):=h.has (c:=z.au) (Has.tail Has.head)
 have q: ∀k,z.val.ownBlock=some k→w.heap.size≤k:=λk r=>by
  rcases ej k w.heap.size with a | b
  exact absurd (h.ek k (e_.2 ⟨z.au,by simp,jb.2 r⟩) a) av;exact b
 have i:z.val.ownBlock≠some g:=λs=>by
  rw[fq,fW] at e
  exact e.2.2 g (by simp[aD]) g (e_.2 ⟨z.au,by simp,jb.2 s⟩) rfl
 have j:w'.heap[g]? = some (.cells (iy bM z.val).toArray 77 (0,0)):=h.has (c:=aD g (iy bM z.val) 77) Has.head
 have t:cz.all z.l=Lib.byteCells z.l:=by
  rw[←IB,Lib.strCells_eq]
 have m:w'.ownsRowF w.heap.size 5 1 z.val z.l.length (Lib.byteCells z.l):=by
  rw[←t];refine World.ownsRowF_of ⟨f.1,?_⟩;rcases f.2 with u | ⟨k,cap,am,n,_,rest⟩
  exact .inl u;exact .inr ⟨k,cap,am,n,q k (by rw[n];rfl),rest⟩
 have o: (Lib.byteCells z.l).length=z.l.length:=Lib.byteCells_length _
 refine⟨h.ext,?_⟩;rcases p with rfl | rfl
 exact .inl ⟨d,z.val,j,by rw[o];exact m,i⟩;exact .inr ⟨d,z.val,j,by rw[o];exact m,i⟩
theorem ez.off {b w:World} {F:Nat→Prop} {cs:List Chunk} {c0:Chunk} {A:Option Addr} {n c:Nat} {rows:List bG} (d:ez b F A n c rows) (h:af b [] cs w) (e:Has cs c0):ez w (λk=>k∉aB [c0]) A n c rows:=by
 refine (d.hI.ext h.ext (λk _=>by simp)).dC (λk f a=>?_);rw[show aB [c0]=c0.ch by simp[aB]] at a
 exact absurd (h.ek k (e_.2 ⟨c0,e.mem,a⟩) f.2) av
theorem wt (w:World) (F:Nat→Prop) (A:Option Addr) (n c:Nat) (rows:List bG) (d:ez w F A n c rows) (fr to:aY) (f:n≤100000) (g:0≤fr.row∧fr.row≤4398046511104) (j:0≤to.cM) (k:0≤to.row∧to.row≤4398046511104)
 (m: ∀row∈rows,∀x∈row.1,x.more.length≤1000000) (o: (fT rows fr to).length≤140737488355328):
 Calls prog 10 [.slice A n c,d_ fr,d_ to].toArray w (Pure (.string (bs (fT rows fr to))) w):=by
 refine aV func10 ntmps10 ?_;refine ah ?_;intro t u y;refine ar ?_;intro B C D;refine al ?_;intro a E G;refine aK ?_;refine gR (H':=af w [] [wr a none ⟨none,0,[]⟩]) ?_ (Sub.refl _) (λx p=>((p.eU 5 cz).close (l:=[aD a (iy none (is.val ⟨none,0,[]⟩)) 77,is.au ⟨none,0,[]⟩]) ae).ax ae);refine a6 (ι:=y5) (v:=λ_=> .tuple #[]) (l':=λi=>[wr a i.bM i.z]) (ok:=λi=>(i.bM=none∨i.bM=some ⟨a,0,none⟩)∧i.z.l=fT rows fr to) (l0:=[wr a none ⟨none,0,[]⟩]) ae rfl Eq rfl (λq b=>KY q (λi:y5=>wr a i.bM i.z) _ ⟨none,⟨none,0,[]⟩⟩ A n c rows (d.off b Has.head) fr to _ a _ MT (Yh a 140737488355328 (bW _)) f g j k m (by rw[←xA];exact o) (b.bo ae) ⟨.inl rfl,rfl⟩) (λi hi=>?_);refine aS ?_;refine sO (v:= .string (bs (fT rows fr to))) (H':=af w [] []) rfl Cu rfl (λw' r=>(by have h:=Ye w a _ w' (Yi ((r.open (l:=[aD a (iy i.bM i.z.val) 77,i.z.au]) bw.head).ax ae) hi.1);rw[hi.2] at h;exact h.mono (λe H h=>⟨h.1,⟨h.2,by simp[aB],by simp,by simp[aB]⟩⟩))) ?_;refine ay ?_;intro I s;exact⟨rfl,s.ext⟩
abbrev wu (g:Nat) (z:ee):Chunk:=aR [aD g [z.val] 36,z.au]
theorem Yj (g M:Nat) (A:M≤1000000000):y4 61 g M (wu g) (λs i=>i.l=s.map Prod.snd):=by
 intro f s z t p k B a;dsimp only at k a ⊢
 have a:=a.i7
 refine Calls.mono ?_ (λe w' h=>aP.star (l:=[aD g [z.val] 36,z.au]) (v:=λ_:ee=>Value.tuple #[]) (l':=λj=>[aD g [j.val] 36,j.au]) (ok:=λj=>j.l=(s++lX p t).map Prod.snd) h);obtain⟨b,c⟩:=p;refine calls (n:=14) func61 rfl ntmps61 rfl ?_;refine cH (H':=af f (aB [aD g [z.val] 36,z.au]) [aD g [z.val] 36,z.au]) ?_ (Sub.refl _) a.start;refine ah ?_;intro m C D;refine aQ ?_;refine b2 (ι:=Nat × ee) (λq=>[(2,ptr g),(4,ptr m),(6,.int .i64 (t.length:Int)),(7,.int .i64 (q.1 :Int))]) (λq=>af f (aB [aD g [z.val] 36,z.au]) [aD m [.int .i64 b,.int .i64 c] 35,aD g [q.2.val] 36,q.2.au]) (λq=>q.1≤t.length∧q.2.l=s.map Prod.snd++List.replicate q.1 ⟨b,c⟩) (λq=>t.length - q.1) ?_ ?_;exact λw' o=>⟨(0,z),⟨bP _,by rw[k];simp⟩,(cj rfl rfl rfl rfl),o⟩
 rintro⟨i,y⟩ ⟨hi,d⟩;dsimp only at hi d ⊢
 have F:y.l.length=s.length+i:=by rw[d];simp
 refine al ?_;refine aj (λr=>?_) (λr=>?_);refine aC ?_;refine dy (E:=cf) ⟨_,_⟩ dD rfl rfl rfl rfl rfl (λG H I=>?_);refine eC (E:=cf) dD rfl rfl rfl bj (λ_ _=>lf) b4 b4 (λu w=>?_);refine aK ?_;exact bi (i+1,⟨u,w,y.l++[⟨b,c⟩]⟩) ⟨by dsimp only;omega,by dsimp only;rw[d,ea,List.replicate_succ']⟩ bm bR (λ_ h=>h.ax ae);refine ay ?_;intro J x;exact aN y (by rw[d,show i=t.length by omega,fQ,lX,mC];exact aU _ (show List.replicate t.length _=t.map (λ_=>(⟨b,c⟩ :aY)) by rw[List.map_const'])) x
theorem Yk (w:World) (F:Nat→Prop) (A:Option Addr) (n c:Nat) (rows:List bG) (d:ez w F A n c rows) (fr to:aY) (e:n≤100000) (f:0≤fr.row∧fr.row≤4398046511104) (g:0≤to.cM) (h:0≤to.row∧to.row≤4398046511104)
 (j: ∀row∈rows,∀x∈row.1,x.more.length≤1000000) (k: (fT rows fr to).length≤1000000000):
 Calls prog 29 [.slice A n c,d_ fr,d_ to].toArray w (aP (λz:ee=>z.val) [] (λz=>[z.au]) (λz=>z.l=(hR rows fr to).map Prod.snd) w):=by
 refine aV func29 ntmps29 ?_;refine ah ?_;intro r t u;refine ar ?_;intro y B C;refine ay ?_;refine oD Mn rfl (λa D E=>?_);refine aK ?_;refine gR (H':=af w [] [wu a ⟨none,0,[]⟩]) ?_ (Sub.refl _) (λx m=>((m.eU 35 cf).close (l:=[aD a [ee.val ⟨none,0,[]⟩] 36,ee.au ⟨none,0,[]⟩]) ae).ax ae);refine a6 (ι:=ee) (v:=λ_=> .tuple #[]) (l':=λi=>[wu a i]) (ok:=λi=>i.l=(hR rows fr to).map Prod.snd) (l0:=[wu a ⟨none,0,[]⟩]) ae rfl Eq rfl (λo b=>KY o (wu a) (λs i=>i.l=s.map Prod.snd) ⟨none,0,[]⟩ A n c rows (d.off b Has.head) fr to _ a _ M8 (Yj a 1000000000 (bW _)) e f g h j (by rw[←xA];exact k) (b.bo ae) rfl) (λz p=>?_);refine ah ?_;refine re (lc:=[aD a [z.val] 36,z.au]) bj ?_;refine aC ?_;intro G q;exact aN z p q
theorem Yl:ad prog 133:=ad.of func133 ab ab
def uc (s p:List UInt8):Bool:=decide (s.drop (s.length - p.length)=p)
theorem Ym {s p:List UInt8} (h:uc s p=true):p.length≤s.length:=by
 have a:=aU List.length (aX h)
 rw[fJ] at a
 omega
theorem Yn (w:World) (s p:List UInt8) (f:s.length≤9223372036854775807) (ai:p.length≤9223372036854775807):Calls prog 133 [.string (bs s),.string (bs p)].toArray w (λe w'=>e= .returned (.bool (uc s p))∧Ext [] w w'):=by
 refine aV func133 ntmps133 ?_;refine bH ?_;refine aW 10 rfl (λa=>?_) (λa=>?_);have c:=aX a
 refine bp ?_;refine gS (r:=((s.length - p.length:Nat):Int)) rfl rfl rfl (by rw[wrap64 aa aa];omega) ?_;refine ar ?_;refine pI (s.length - p.length) underlying9 rfl rfl rfl bc aa ?_;refine aQ ?_;intro d b;exact⟨rfl,b.ext⟩;have c:=bd a
 refine cF ?_;intro d b;refine⟨?_,b.ext⟩;rw[show uc s p=false from Bool.eq_false_iff.2 (λe=>c (by have:=Ym e;omega))]
end Go.Proofs.YtlgnfdodnhokjaaGreatDoor.Mq
