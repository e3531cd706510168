/- part 40 of the proof -/
import Derived.Test.YtoghoobfpcadbaaGreatDoorQ39
namespace Go.Proofs.YtoghoobfpcadbaaGreatDoor.Mq
open Go Go.RowKit Go.Proofs Tryz
structure y2 (s:bU) (m:Nat) (N:Int) (L:List UInt8) (i:bU):Prop where
 g:i.g=s.g
 ok:cF i (m+8000000*L.length) (N+(m+8000000*L.length:Nat))
 ex: ∃bu,vM s.p s.T.abs L i.p bu∧i.st.abs=n7 s.st.abs (hZ bu).aG∧i.T.abs= { hZ bu with aG:=[] }
 most:i.p.most=s.p.most
 es:i.es=s.es
 room:i.ap.r.room=s.ap.r.room
 marks:i.cx.most=s.cx.most
theorem KI [Inhabited bN] (w:World) (s:bU) {m:Nat} {N:Int} (b:cF s m N) (C:a8 w [b9 s]) (D:m≤100000000000) (M:N≤800000000000000) (A:Option Addr) (n c:Nat) (L:List UInt8) (j:Rd cD w (λk=>k∉aA [b9 s]) A n c L) (E:n≤1000):Calls prog 18 [ptr s.g,.slice A n c].toArray w (aO (λ_:bU=> .tuple #[]) [b9 s] (λi=>[b9 i]) (y2 s m N L) w):=by
 have F:=j.len
 obtain⟨g,top,dn,cb,p,T,st,cx,dq,es,ck⟩:=s;have o:=b.De rfl
 have r:=b.st
 have t:=b.cx
 dsimp only at o r t
 have G: ∀k,k∉aA [b9 ⟨g,top,dn,cb,p,T,st,cx,dq,es,ck⟩]→k∉aA (fg p cb p.g T):=(λk H h=>H (by
  rw[show aA [b9 ⟨g,top,dn,cb,p,T,st,cx,dq,es,ck⟩]=aA (cS ⟨g,top,dn,cb,p,T,st,cx,dq,es,ck⟩) by simp[aA,aU]];exact e3.2 ⟨aU (fg p cb p.g T),by simp,h⟩))
 refine calls (n:=14) func18 rfl ntmps18 rfl ?_;refine cL (H':=af w (aA [b9 ⟨g,top,dn,cb,p,T,st,cx,dq,es,ck⟩]) (cS ⟨g,top,dn,cb,p,T,st,cx,dq,es,ck⟩)) ?_ (Sub.refl _) (λx e=>by have h:=(C.start x e).open (l:=cS ⟨g,top,dn,cb,p,T,st,cx,dq,es,ck⟩) bi;rwa [fR] at h);refine b_ ?_;refine ku (lc:=fg p cb p.g T) cB<| aY (l0:=fg p cb p.g T) ae rfl Mk rfl (λf d=>VO f cb p T (d.bo ae) b.par o A n c L ((j.ext d.ext (λ_ h=>h)).dJ G) E D) (λ⟨q,bu⟩ I=>?_)
 refine aq ?_;obtain⟨u,v,y,a,z⟩:=I;dsimp only at u v y a z
 refine cL (H':=af w (aA [b9 ⟨g,top,dn,cb,p,T,st,cx,dq,es,ck⟩]) [b9 ⟨g,top,dn,cb,q,bu,st,cx,dq,es,ck⟩]) ?_ (Sub.refl _) (λx e=>by have B:=e.close (l:=fg q cb p.g bu) ae;rw[show fg q cb p.g bu=fg q cb q.g bu by rw[u]] at B;exact (B.close (l:=cS ⟨g,top,dn,cb,q,bu,st,cx,dq,es,ck⟩) ae).aw ae);have J:cF ⟨g,top,dn,cb,q,bu,st,cx,dq,es,ck⟩ (m+8000000*n) N:=⟨v,⟨a.am,a.bk,rfl,a.bL,a.cl,a.be,a.buf,a.aG,a.md⟩,r,t,b.mp,b.top⟩
 refine aq ?_;refine aY (l0:=[b9 ⟨g,top,dn,cb,q,bu,st,cx,dq,es,ck⟩]) ae rfl D8 rfl (λf d=>KE f _ J (d.bo ae) aa aa) (λi hi=>?_);refine aq ?_;intro O K;refine aN i ⟨hi.g,?_,⟨bu.abs,hi.p.symm▸z,hi.st,hi.T⟩,by rw[hi.p];exact y,hi.es,?_,hi.marks⟩ K;rw[F];exact hi.ok
 rw[hi.room];exact a.room
abbrev gL (l:List bj):Prop:= ∀c∈l,c.more.length≤32
def kl (cols:Nat) (l:List bT):Prop:= ∀g∈l,g.cells.length=cols∧gL g.cells
theorem kl.snoc {cols:Nat} {l:List bT} {g:bT} (h:kl cols l) (b:g.cells.length=cols∧gL g.cells):kl cols (l++[g]):=λx a=>by
 rcases db.1 a with a | a
 exact h x a;rw[ey] at a;subst a;exact b
theorem KJ {l:List bj} (h:gL l):gL (dg l):=xw (P:=λc=>c.more.length≤32) (λ_ _=>bP _) h
theorem Ym {l:List bj} (h:gL l):gL (uQ l):=KJ (λc a=>by
 obtain⟨d,ak,rfl⟩:=dX.1 a;unfold nu;split
 exact bP _;exact h d ak)
def n8 (left:List bj) (cols:Nat):List bj:=left.take (eH left cols)++List.replicate (cols - eH left cols) gS
theorem Yn (left:List bj) (cols:Nat): (n8 left cols).length=cols:=by
 have:=Aw left cols
 unfold n8;rw[b8,dv,hd];omega
theorem Yo {left:List bj} (h:gL left) (cols:Nat):gL (n8 left cols):=λc a=>by
 rcases db.1 a with a | a
 exact h c (iD a);rw[(ui.1 a).2];exact bP _
theorem Yp {l:List bj} (h:gL l) (i:Nat):gL (l.set i q5):=λc a=>by
 rcases rX a with a | rfl
 exact h c a;exact bP _
theorem Yq {left:List bj} {cols:Nat} (h:eH left cols<cols): (bJ.all (n8 left cols)).set (eH left cols*8+2) (.int .i64 3)=bJ.all ((n8 left cols).set (eH left cols) q5):=by
 refine bJ.py (j:=2) (a':=q5) (v:= .int .i64 3) (a:=gS) ?_ aZ rfl;have:=Aw left cols
 unfold n8;rw[kY (by rw[dv];omega),dv,rU,ay aa]
structure Yr where
 z:dd
 A:Option Addr
 n:Nat
 c:Nat
 left:List bj
theorem Ys (w:World) (F:Nat→Prop) (A:Option Addr) (n c:Nat) (l:List bj) (cols:Nat) (C:Rd bJ w F A n c l) (Q:n≤1000000) (R:2≤cols) (S:cols≤1000) (T:gL l):
 Calls prog 281 [.slice A n c,.int .i64 (cols:Int)].toArray w (aO (λz:dd=>z.val) [] (λz=>[z.au,z.cj]) (λz=>kl cols z.l∧1≤z.l.length∧z.l.length≤l.length+1) w):=by
 have Zk:=C.len
 refine aW func281 ntmps281 ?_;refine aJ ?_;refine ao rfl ES rfl (λw' _=>uP w' _) ?_;refine ah ?_;refine fD rfl (by simp;omega) ?_;refine ax ?_;refine zq rfl Ow rfl (λw' e=>PB w' F A n c l (C.ext e.ext av) Q) (λZl f U V W Zm Zn Y D=>?_);refine aJ ?_;have G:=PA l
 have Z:=Ym T
 have Zo:=D.len
 refine cL (H':=af f [] [dd.au ⟨none,0,[]⟩,dd.cj ⟨none,0,[]⟩]) ?_ (Sub.refl _) (λx r=>((r.eO 144 cn).tr).aw ae);refine ar ?_;refine b1 (ι:=Yr) (λt=>[(1,.int .i64 (cols:Int)),(5,.slice t.A t.n t.c),(6,t.z.val)]) (λt=>af f [] [t.z.au,t.z.cj]) (λt=>kl cols t.z.l∧Rd bJ f (λ_=>True) t.A t.n t.c t.left∧gL t.left∧(t.z.l.length=0→t.left.length≤l.length)∧t.z.l.length+t.left.length≤l.length+1) (λt=>if t.z.l.length=0 then l.length+2 else t.left.length) ?_ ?_;exact λw' e=>⟨⟨⟨none,0,[]⟩,U,V,W,uQ l⟩,⟨λ_ h=>by simp at h,D.dJ (λ_ _=>aT),Z,λ_=>by rw[G];exact ch _,by show 0+_≤_;rw[G];omega⟩,(ef rfl rfl rfl),e⟩
 rintro⟨z,i,d,lc,left⟩ ⟨s,j,u,Za,Zb⟩;dsimp only at s j u Za Zb ⊢
 have Zp:=j.len
 have Zq:=j.cap
 have Zr:=Aw left cols
 have H:left≠[]→1≤eH left cols:=λh=>PC left cols R h
 refine aq ?_;refine hK (λb:Bool=>[(1,.int .i64 (cols:Int)),(5,.slice i d lc),(6,z.val),(21,.bool b)]) (λ_=>af f [] [z.au,z.cj]) (λb=>b=true↔(z.l.length=0∨0<d)) ?_ ?_;refine ax ?_;refine aX 17 rfl (λv=>?_) (λv=>?_);have Zc:=a1 v
 refine ax ?_;refine dw _ ?_ (cw rfl rfl rfl rfl) (λ_ h=>h);exact⟨λ_=> .inl aa,λ_=>rfl⟩;have Zc:=bc v
 refine aL ?_;refine dw _ ?_ (cw rfl rfl rfl rfl) (λ_ h=>h)
 (simp only[e2];omega)
 rintro b I;refine ar ?_;refine b6 rfl (λy=>?_) (λy=>?_);have Zs:=I.1 y
 have m:=Yn left cols
 have J:=Yo u cols
 have K:=PD left cols
 have L:=j.cut (p:=0) (q:=eH left cols) aa aa
 have M:=j.cut (p:=eH left cols) (q:=d) aa (ch _)
 rw[pq] at L
 rw[ez (show left.length≤d by omega)] at M
 have Zd:z.l.length+1+(left.length - eH left cols)≤l.length+1:=by
  by_cases k:left=[]
  subst k;simp only[lH] at *;omega
  have:=H k;omega
 have Ze:left.length - eH left cols<(if z.l.length=0 then l.length+2 else left.length):=by
  by_cases k:left=[]
  subst k;simp only[lH] at *;split <;> omega
  have:=H k;split <;> omega
 refine aD ?_;refine ao rfl Ox rfl (λw' e=>Au w' _ i d lc left cols (j.ext e.ext av) aa aa S) ?_;refine al ?_;refine se cols dB rfl rfl rfl rfl (by simp only[maxLen];omega) aa (λg Zt Zu=>?_);refine aS ?_;rw[FU];refine aS ?_;refine ft 0 (eH left cols) dB rfl rfl (.inr ⟨rfl,rfl⟩) (.inl ⟨_,_,rfl,rfl,rfl⟩) aa aa ?_;refine DM (E:=bJ) (src:=left.take (eH left cols)) dB rfl rfl rfl cA (λw' e=>L.ext e.ext av) aa ?_;refine aS ?_;rw[kn,PE,List.drop_replicate,←bJ.all_append];refine cL (H':=af f [] [bT.aG ⟨some ⟨g,0,none⟩,cols,false,n8 left cols⟩,z.au,z.cj]) ?_ (Sub.refl _) (λx r=>by simp only[bT.aG,dQ,bT.val,m];exact r);refine ah ?_;refine ft (eH left cols) d dB rfl rfl (.inl ⟨_,_,rfl,rfl,rfl⟩) (.inr ⟨rfl,rfl⟩) aa aa ?_;refine aS ?_;refine hK (λb:Bool=>[(1,.int .i64 (cols:Int)),(5,.slice (if lc=eH left cols then i else i.map (λx=>x.add (eH left cols*8))) (d - eH left cols) (lc - eH left cols)),(6,z.val),(7,.int .i64 (eH left cols:Int)),(8,.slice (some ⟨g,0,none⟩) cols cols),(43,.bool b)]) (λ_=>af f [] [bT.aG ⟨some ⟨g,0,none⟩,cols,false,n8 left cols⟩,z.au,z.cj]) (λb=>b=true→eH left cols<cols) ?_ ?_;refine al ?_;refine aX 39 rfl (λaK=>?_) (λaK=>?_);have Zf:=a1 aK
 refine aL ?_;refine dw _ ?_ (gC rfl rfl rfl rfl rfl rfl) (λ_ h=>h);exact λ_=>by omega
 have Zf:=bc aK
 refine ax ?_;refine dw _ ?_ (gC rfl rfl rfl rfl rfl rfl) (λ_ h=>h);exact λh=>Bool.noConfusion h
 rintro Zv B;refine ar ?_;refine hK (λ_:List bj=>[(1,.int .i64 (cols:Int)),(5,.slice (if lc=eH left cols then i else i.map (λx=>x.add (eH left cols*8))) (d - eH left cols) (lc - eH left cols)),(6,z.val),(8,.slice (some ⟨g,0,none⟩) cols cols)]) (λX=>af f [] [bT.aG ⟨some ⟨g,0,none⟩,cols,false,X⟩,z.au,z.cj]) (λX=>X.length=cols∧gL X) ?_ ?_;refine b6 rfl (λZg=>?_) (λZg=>?_);refine ah ?_;refine bw (q:=eH left cols) dB rfl rfl rfl rfl rfl (by have:=B bA;omega) ?_;refine ar ?_;refine k3 (o:=eH left cols*8+2) bM rfl rfl cA (by simp[Addr.add_lit]) rfl (by have:=B bA;rw[bJ.dE,m];show _<_*8;omega) ?_;refine ar ?_;exact dw ((n8 left cols).set (eH left cols) q5) ⟨by rw[fL,m],Yp J _⟩ (cw rfl rfl rfl rfl) (λ_ h=>by rw[Yq (B bA)] at h;simp only[bT.aG,dQ,bT.val,fL] at h ⊢;exact h);refine ar ?_;exact dw (n8 left cols) ⟨m,J⟩ bR (λ_ h=>h);rintro X ⟨N,Zh⟩;refine aL ?_;refine dG (E:=cn) (a:=⟨some ⟨g,0,none⟩,cols,decide ((z.l.length:Int)>0),X⟩) dM rfl rfl rfl rfl (by show [Value.slice _ cols cols,_]=[Value.slice _ X.length cols,_];rw[N]) (λZw _ _=>?_);refine ew (E:=cn) dM rfl rfl rfl bi (λ_ _=>er) b7 b7 (λO P=>?_);refine ah ?_;refine bg ⟨⟨O,P,z.l++[⟨some ⟨g,0,none⟩,cols,decide ((z.l.length:Int)>0),X⟩]⟩,_,_,_,Av left cols⟩ ⟨s.snoc ⟨N,Zh⟩,M,λc Zi=>u c (lK Zi),λh=>by simp at h,?_⟩ ?_ (ef rfl rfl rfl) (λ_ h=>(af.ye (l:=z.l) (g:=⟨some ⟨g,0,none⟩,cols,decide ((z.l.length:Int)>0),X⟩) (h.aw (l:=[z.cj,bT.aG ⟨some ⟨g,0,none⟩,cols,decide ((z.l.length:Int)>0),X⟩,au 144 cn O P (z.l++[⟨some ⟨g,0,none⟩,cols,decide ((z.l.length:Int)>0),X⟩])]) ae)).aw ae);dsimp only;rw[b8,iC,K];exact Zd
 dsimp only;rw[b8,iC,ag aa,K];exact Ze
 refine bI ?_;intro Zx Zj;exact aO.bQ z ⟨s,by have: ¬(z.l.length=0∨0<d):=λh=>Bool.noConfusion ((I.2 h).symm.trans y);omega,aa⟩ rfl (Zj.y_ Y.ext av)
end Go.Proofs.YtoghoobfpcadbaaGreatDoor.Mq
namespace Go.Proofs.YtoghoobfpcadbaaGreatDoor.Mq
open Go Go.RowKit Go.Proofs
structure KK where
 A:Option Addr
 n:Nat
 c:Nat
 lo:Nat
 hi:Nat
abbrev qx {α:Type} (E:bx α) (L:List α) (x:KK):Chunk:=rn x.lo x.hi (λw=>Rd E w (λk=>x.lo≤k∧k<x.hi) x.A x.n x.c L) (λ_ _ b h=>Rd.loc h (λk a=>b k a.1 a.2))
theorem ik.fo {α:Type} {E:bx α} (f:0<E.sz) {w w':World} {L:List α} {e:Ending} (h:ik E w L e w'):aO (λx:KK=> .slice x.A x.n x.c) [] (λx=>[qx E L x]) (λx=>x.n=L.length) w e w':=by
 obtain⟨A,n,c,rfl,g,a⟩:=h;refine⟨⟨A,n,c,w.heap.size,w'.heap.size⟩,a.len.symm,rfl,g,?_,?_,?_⟩;simp only[aA,n_,rR,fR];exact x8 _ _ _ _;intro c b;rw[ey] at b
 subst b;exact⟨λ_=>ch _,a.hI f⟩;intro k d i;simp only[aA,n_,rR,fR] at d
 have:w.heap.size≤k:=(od.1 d).1
 omega
theorem tX {α:Type} {E:bx α} {P:Program} {n:Nat} {ops:Array Oper} {Q:cq} {rest:List Oper} {l:Fr} {ty:TypeId} {pos:String} {a6:Array Edge} {b:World} {S:List Nat} {cs cs':List Chunk} {x y:Operand} {t e g q c:Nat} {z:List Value} {A:Option Addr} {L:List α} {a:α}
 (i:cG P t E.sz z) (j:ba l x=some (.pointer (some ((⟨g,0,none⟩ :Addr).add (q*E.sz))))) (k:ba l y=some (.agg (E.enc a).toArray)) (o:A=some ⟨g,0,none⟩) (d:q<L.length) (p:bn cs (au e E A c L) (au e E A c (L.set q a)) cs')
 (h:az P n ops Q rest l (af b S cs')):az P n ops Q (⟨none,.store t x y,ty,pos,a6,none⟩::rest) l (af b S cs):=by
 subst o;refine jT (e:=e) (sz:=E.sz) (m:=L.length) (c:=c) (xs:=E.all L) i j k ?_ (by rw[Addr.add_lit,dA]) (E.len a) (E.hj a) ?_ h;rw[bx.hl E a d];have f:bn cs (own e E.sz (.slice (some ⟨g,0,none⟩) L.length c) L.length (E.all L)) (own e E.sz (.slice (some ⟨g,0,none⟩) (L.set q a).length c) (L.set q a).length (E.all (L.set q a))) cs':=p
 rw[fL] at f
 exact f;rw[E.len,E.dE];have:=kZ E.sz d
 rw[oj] at this
 exact this
theorem Yt (rows:List bS) (off:Int) (f:1≤rows.length):0≤(jW rows off).row∧(jW rows off).row<(rows.length:Int)∧0≤(jW rows off).dp:=by
 have d:=F5 rows (max 0 off)
 obtain⟨g,b,h⟩:=d;unfold jW;rw[ag aa];split
 rename_i e;have i:=xo (rows:=rows) (j:=rows.length - 1) (k:=rows.length) aa
 have a:=b (rows.length - 1) aa
 rw[show rows.length - 1+1=rows.length by omega] at a
 dsimp only;omega
 rename_i e;dsimp only;refine⟨aa,aa,?_⟩;rcases gM (oH rows (max 0 off)) with c | c
 rw[c];simp[fm,cellsOf];omega
 have a:=b (oH rows (max 0 off) - 1) aa
 rw[show oH rows (max 0 off) - 1+1=oH rows (max 0 off) by omega] at a
 omega
theorem Yu {rows:List bS} (h: ∀r∈rows,gL r.1):gL (q4 rows):=λc a=>by
 unfold q4 Ar at a
 refine KJ (λd ak=>?_) c (iD a);obtain⟨ak,_⟩:=List.mem_filter.1 ak;obtain⟨r,b,ak⟩:=List.mem_flatMap.1 ak;exact h r b d ak
abbrev Good (q:List bh) (r:Nat):Prop:= ∃p,q[0]? = some p∧0≤p.row∧p.row<(r:Int)∧0≤p.dp
theorem Good.mono {q:List bh} {r s:Nat} (h:Good q r) (d:r≤s):Good q s:=by
 obtain⟨p,a,b,e,c⟩:=h;exact⟨p,a,b,aa,c⟩
theorem Good.set {q:List bh} {r j:Nat} {p:bh} (h:Good q r) (c:1≤j):Good (q.set j p) r:=by
 obtain⟨cc,a,b⟩:=h;exact⟨cc,by rw[jx aa];exact a,b⟩
end Go.Proofs.YtoghoobfpcadbaaGreatDoor.Mq
namespace Go.Proofs.YtoghoobfpcadbaaGreatDoor.Mq
open Go Go.RowKit Go.Proofs Tryz
structure KL where
 i:Nat
 z:dd
 q:List bh
structure Yv (w:World) (rows:List bS) (l:List bh) (n m cols:Nat) (L:List (Int × Int)) (t:KL):Prop where
 i:t.i≤L.length
 wide:kl cols t.z.l
 len:t.z.l.length≤t.i*100001
 q:t.q.length=m
 aG: ∃a:Nat,sF rows n a (L.drop t.i)∧a≤n∧ ∀p,l[0]? = some p→0≤p.row→p.row<(a:Int)→Good t.q t.z.l.length
theorem kl.oB {cols:Nat} {l r:List bT} (h:kl cols l) (k:kl cols r):kl cols (l++r):=λx a=>by
 rcases db.1 a with a | a
 exact h x a;exact k x a
theorem KM {q:List bh} {j r s:Nat} {p:bh} (a:j<q.length) (b:j=0) (h:0≤p.row∧p.row<(s:Int)∧0≤p.dp):Good (q.set j ⟨p.row+(r:Int),p.dp⟩) (r+s):=by
 subst b;exact⟨_,List.getElem?_set_self a,by dsimp only;omega,by dsimp only;omega,h.2.2⟩
theorem Di {cols:Nat}: ∀{l:List bT},kl cols l→eb (b0 l)=l.length*cols
 | [],_=>by simp[eb]
 | g::l,h=>by
  have c:=(h g av).1
  have a:=Di (l:=l) (λx b=>h x (by simp[b]))
  simp only[eb,lI,List.sum_cons,eK] at a ⊢
  rw[a,oj];show g.cells.length+_=_
  omega
theorem KN {rows:List bS} (p:bh) (h:eb rows≤100000): -9223372036854775808≤jD rows p∧jD rows p≤9223372036854775807:=by
 have:=PQ rows p
 omega
theorem Yw (w:World) (F G:Nat→Prop) (A X:Option Addr) (n c m d:Nat) (rows:List bS) (l:List bh) (cols:Nat) (Zb:eu w F A n c rows) (ai:Rd bW w G X m d l) (Z7:n≤1000) (Z8:eb rows≤100000) (Z9:m≤1000000) (Zy:2≤cols) (Zz:cols≤1000) (ZA: (eb rows+1)*cols≤1000000) (ZB: ∀r∈rows,gL r.1):
 Calls prog 193 [.slice A n c,.int .i64 (cols:Int),.slice X m d].toArray w (aO (λt:dd × dl=> .tuple #[t.1.val,t.2.val]) [] (λt=>[t.1.au,t.1.cj,t.2.au]) (λt=>kl cols t.1.l∧t.1.l.length≤200000000∧t.2.l.length=m∧ ∀p,l[0]? = some p→0≤p.row→p.row<(n:Int)→Good t.2.l t.1.l.length) w):=by
 have Zaa:=Zb.len
 have ZC:=ai.len
 refine aW func193 ntmps193 ?_;refine aJ ?_;refine px 51 2 ?_;refine rb (E:=bW) (src:=l) (F:=G) (m:=0) (xs:=[]) l.length aa ds rfl rfl rfl (λ_=>by exact cA) (λw' W=>ai.ext W.ext av) (by simp only[maxLen];omega) aa (λI J=>?_);refine aD ?_;refine iI (e:=51) (sz:=2) (v:= .slice I l.length J) aQ (λdF c9 ZD _ _ _ Zn=>?_);cases ZD
 refine ao rfl ES rfl (λw' _=>uP w' _) ?_;refine ah ?_;refine fD rfl (by simp;omega) ?_;refine bp ?_;refine aY (l0:=[]) aB.nil rfl Et rfl (λH D=>Kg H _ A n c rows (Zb.ext D.ext av) aa) (λP Zo=>?_);refine aS ?_;refine cL (H':=af w [] [dd.au ⟨none,0,[]⟩,dd.cj ⟨none,0,[]⟩,au 51 bW I J l,P.au]) ?_ (Sub.refl _) (λx ZE=>((ZE.eO 144 cn).tr).aw ae);have ZF:=Ax rows n
 rw[←Zo] at ZF
 have Zp:=Ay rows n
 rw[←Zo] at Zp
 refine ar ?_;refine b1 (ι:=KL) (λt=>[(0,.slice A n c),(1,.int .i64 (cols:Int)),(2,.slice X m d),(8,.slice I l.length J),(9,t.z.val),(29,P.val),(30,.int .i64 (P.l.length:Int)),(31,.int .i64 (t.i:Int))]) (λt=>af w [] [t.z.au,t.z.cj,au 51 bW I J t.q,P.au]) (Yv w rows l n m cols P.l) (λt=>P.l.length - t.i) ?_ ?_;exact λw' W=>⟨⟨0,⟨none,0,[]⟩,l⟩,⟨bP _,λ_ h=>by simp at h,bP _,ZC,0,Zp,bP _,λp _ b k=>by omega⟩,(xc rfl rfl rfl rfl rfl rfl rfl rfl),W⟩
 rintro⟨i,z,q⟩ ⟨hi,Zf,ZG,Zg,a,Z,Zab,Zh⟩;dsimp only at hi Zf ZG Zg Z Zh ⊢
 refine al ?_;refine aj (λZH=>?_) (λZH=>?_);obtain⟨ZI,ZJ⟩ : ∃v,P.l[i]? = some v:=⟨_,bG aa⟩;have ZK:P.l.drop i=ZI::P.l.drop (i+1):=by
  obtain⟨b,k⟩:=cY.1 ZJ;rw[lG b,k]
 rw[ZK] at Z
 obtain⟨e,rfl,Zac,Zq,_,_,ZL⟩:=Az Z;have Zr:=Zb.cut (p:=a) (q:=e) aa Zq
 have Zad:=Zb.xm
 have Zae:eb ((rows.take e).drop a)≤eb rows:=fs (PM _ _) (At _ _)
 have Zaf:=PP ((rows.take e).drop a)
 have Zag: ((rows.take e).drop a).length=e - a:=by rw[fK,dv];omega
 have ZM:=Yu (rows:=(rows.take e).drop a) (λr h=>ZB r (iD (lK h)))
 refine al ?_;refine jm (E:=mF) hL sl rfl rfl rfl bb aa (λZah ZN=>?_);refine cy zx rfl rfl rfl (λZai ZO j u T=>ZO.fO (E:=mF) hL ZN bA j u T) ?_;refine ar ?_;intro Zs Zaj Zak;refine al ?_;refine dt (q:=0) underlying227 gA rfl rfl rfl bb aa ?_;refine ar ?_;refine dt (q:=1) underlying227 gA rfl rfl rfl bb aa ?_;refine ar ?_;refine ft a e dM rfl rfl (.inl ⟨_,_,rfl,rfl,rfl⟩) (.inl ⟨_,_,rfl,rfl,rfl⟩) aa aa ?_;refine al ?_;refine aY (l0:=[]) aB.nil rfl NX rfl (λH D=>(Pz H F _ (e - a) (c - a) _ (Zr.ext D.ext av) aa aa).mono (λ_ _ h=>h.fo aZ)) (λZc Zal=>?_);refine ar ?_;refine aY (l0:=[]) aB.nil rfl NW rfl (λH D=>Ys H _ Zc.A Zc.n Zc.c (q4 ((rows.take e).drop a)) cols ((D.has (c:=qx bJ (q4 ((rows.take e).drop a)) Zc) aQ).2) aa Zy Zz ZM) (λf ZP=>?_);refine al ?_;obtain⟨Zt,ZQ,Zam⟩:=ZP;have Zi:eb (b0 f.l)≤1000000:=by rw[Di Zt];exact fs (kZ _ aa) ZA
 refine aY (l0:=[]) aB.nil rfl ET rfl (λH D=>(F0 H F _ (e - a) (c - a) _ (Zr.ext D.ext av) aa aa).mono (λ_ _ h=>h.fo aZ)) (λO ZR=>?_);refine ar ?_;refine aY (l0:=[]) aB.nil rfl ET rfl (λH D=>(F0 H _ f.A f.l.length f.c (b0 f.l) (sK (D.has (c:=f.au) bH) (D.has (c:=f.cj) cu)) aa Zi).mono (λ_ _ h=>h.fo aZ)) (λQ Zu=>?_);refine bB ?_;rw[oG] at ZR Zu
 rw[cT] at Zu
 refine ar ?_;refine b1 (ι:=Nat × List bh) (λt=>[(0,.slice A n c),(1,.int .i64 (cols:Int)),(2,.slice X m d),(8,.slice I l.length J),(9,z.val),(11,ptr Zs),(13,f.val),(14,.slice O.A O.n O.c),(15,.slice Q.A Q.n Q.c),(29,P.val),(30,.int .i64 (P.l.length:Int)),(31,.int .i64 (i:Int)),(49,.slice X m d),(50,.int .i64 (m:Int)),(51,.int .i64 (t.1 :Int))])
  (λt=>af w [] [aE Zs [.int .i64 (a:Int),.int .i64 (e:Int)] 227,qx bX (iK (b0 f.l)) Q,qx bX (iK ((rows.take e).drop a)) O,f.au,f.cj,z.au,z.cj,au 51 bW I J t.2,P.au])
  (λt=>t.1≤m∧t.2.length=m∧(∀p,l[0]? = some p→0≤p.row→p.row<(a:Int)→Good t.2 z.l.length)∧ ∀p,l[0]? = some p→(a:Int)≤p.row→p.row<(e:Int)→1≤t.1→Good t.2 (z.l.length+f.l.length)) (λt=>m - t.1) ?_ ?_
 exact λw' W=>⟨(0,q),⟨bP _,Zg,Zh,λ_ _ _ _ h=>by omega⟩,(Sub.cons rfl (Sub.cons rfl (Sub.cons rfl (Sub.cons rfl (Sub.cons rfl (mE rfl rfl rfl rfl rfl rfl rfl rfl rfl rfl)))))),W.aw ae⟩
 rintro⟨j,B⟩ ⟨T,K,N,V⟩;dsimp only at T K N V ⊢
 refine al ?_;refine aj (λZS=>?_) (λZS=>?_);obtain⟨⟨S,Y⟩,R⟩ : ∃p,l[j]? = some p:=⟨_,bG aa⟩;obtain⟨b2,Zd,ZT,Ze⟩:=ai.at_ R;obtain⟨Za,U⟩:=Zn aa;have Zv: ∀off,0≤(jW (b0 f.l) off).row∧(jW (b0 f.l) off).row<(f.l.length:Int)∧0≤(jW (b0 f.l) off).dp:=λoff=>by
  have:=Yt (b0 f.l) off (by rw[cT];exact ZQ)
  rwa [cT] at this
 have ZU:=Zv (jD ((rows.take e).drop a) ⟨max 0 S - (a:Int),0⟩)
 have ZV:=Zv (jD ((rows.take e).drop a) ⟨max 0 S - (a:Int),Y⟩)
 refine aD ?_;refine bw (q:=j) ds rfl rfl rfl Zd rfl aa ?_;refine cy (vs:=[.int .i64 S,.int .i64 Y]) dN rfl rfl rfl (λZw b j u T=>b.ct (Ze j u T) av) ?_;refine ar ?_;intro Zan Zao Zap;refine e4 ?_;refine bw (q:=j) ds rfl rfl rfl Zd rfl aa ?_;refine ar ?_;refine a7 (v:= .int .i64 S) bM rfl rfl (λZw b=>b.ct (Ze 0 _ rfl) av) ?_;refine ah ?_;refine aj (λZW=>?_) (λZW=>?_);refine aR ?_;refine dt (q:=0) underlying227 gA rfl rfl rfl bb aa ?_;refine ah ?_;refine aX 72 rfl (λaK=>?_) (λaK=>?_);have ZX:=a1 aK
 refine et ?_;exact bg (j+1,B) ⟨aa,K,N,λp b k o _=>(gM j).elim (λC=>by subst C;rw[R] at b;cases b;exfalso;dsimp only at *;omega) (λy=>V p b k o y)⟩ bm (Sub.cons rfl (Sub.cons rfl (Sub.cons rfl (Sub.cons rfl (Sub.cons rfl (mE rfl rfl rfl rfl rfl rfl rfl rfl rfl rfl)))))) (λ_ h=>h.aw ae);have ZX:=bc aK
 refine ax ?_;refine dt (q:=1) underlying227 gA rfl rfl rfl bb aa ?_;refine aD ?_;refine aj (λZY=>?_) (λZY=>?_);refine aL ?_;exact bg (j+1,B) ⟨aa,K,N,λp b k o _=>(gM j).elim (λC=>by subst C;rw[R] at b;cases b;exfalso;dsimp only at *;omega) (λy=>V p b k o y)⟩ bm (Sub.cons rfl (Sub.cons rfl (Sub.cons rfl (Sub.cons rfl (Sub.cons rfl (mE rfl rfl rfl rfl rfl rfl rfl rfl rfl rfl)))))) (λ_ h=>h.aw ae);refine al ?_;refine dt (q:=0) underlying227 gA rfl rfl rfl bb aa ?_;refine bp ?_;refine ao rfl EV rfl (λH D=>F1 H _ O.A O.n O.c ((rows.take e).drop a) ((D.has (c:=qx bX (iK ((rows.take e).drop a)) O) hL).2) _ _ aa aa) ?_;refine ao rfl EU rfl (λH D=>sH H _ Q.A Q.n Q.c (b0 f.l) ((D.has (c:=qx bX (iK (b0 f.l)) Q) cu).2) _ (KN _ aa) aa Zi) ?_;refine b_ ?_;refine bw (q:=j) ds rfl rfl rfl U rfl aa ?_;refine tX (E:=bW) (e:=51) (A:=I) (c:=J) (L:=B) (g:=Za) (q:=j) (a:=(⟨_,_⟩ :bh)) dN rfl rfl U aa FH ?_;refine aD ?_
 (refine bg (j+1,B.set j ⟨(jW (b0 f.l) (jD ((rows.take e).drop a) ⟨max 0 S - (a:Int),0⟩)).row+(z.l.length:Int),(jW (b0 f.l) (jD ((rows.take e).drop a) ⟨max 0 S - (a:Int),0⟩)).dp⟩) ⟨aa,by dsimp only;rw[fL];exact K,λp b k o=>?_,λp b k o _=>?_⟩ bm (Sub.cons rfl (Sub.cons rfl (Sub.cons rfl (Sub.cons rfl (Sub.cons rfl (mE rfl rfl rfl rfl rfl rfl rfl rfl rfl rfl)))))) (λ_ h=>h.aw ae);exact (gM j).elim (λC=>by subst C;rw[R] at b;cases b;exfalso;dsimp only at *;omega) (λy=>(N p b k o).set y);exact (gM j).elim (λC=>KM aa C (ZU)) (λy=>(V p b k o y).set y))
 refine aD ?_;refine dt (q:=0) underlying227 gA rfl rfl rfl bb aa ?_;refine ah ?_;refine aX 72 rfl (λZj=>?_) (λZj=>?_);have ZZ:=a1 Zj
 refine et ?_;exact bg (j+1,B) ⟨aa,K,N,λp b k o _=>(gM j).elim (λC=>by subst C;rw[R] at b;cases b;exfalso;dsimp only at *;omega) (λy=>V p b k o y)⟩ bm (Sub.cons rfl (Sub.cons rfl (Sub.cons rfl (Sub.cons rfl (Sub.cons rfl (mE rfl rfl rfl rfl rfl rfl rfl rfl rfl rfl)))))) (λ_ h=>h.aw ae);have ZZ:=bc Zj
 refine ax ?_;refine dt (q:=1) underlying227 gA rfl rfl rfl bb aa ?_;refine aD ?_;refine aj (λZ0=>?_) (λZ0=>?_);refine aL ?_;exact bg (j+1,B) ⟨aa,K,N,λp b k o _=>(gM j).elim (λC=>by subst C;rw[R] at b;cases b;exfalso;dsimp only at *;omega) (λy=>V p b k o y)⟩ bm (Sub.cons rfl (Sub.cons rfl (Sub.cons rfl (Sub.cons rfl (Sub.cons rfl (mE rfl rfl rfl rfl rfl rfl rfl rfl rfl rfl)))))) (λ_ h=>h.aw ae);refine al ?_;refine dt (q:=0) underlying227 gA rfl rfl rfl bb aa ?_;refine bp ?_;refine ao rfl EV rfl (λH D=>F1 H _ O.A O.n O.c ((rows.take e).drop a) ((D.has (c:=qx bX (iK ((rows.take e).drop a)) O) hL).2) _ _ aa aa) ?_;refine ao rfl EU rfl (λH D=>sH H _ Q.A Q.n Q.c (b0 f.l) ((D.has (c:=qx bX (iK (b0 f.l)) Q) cu).2) _ (KN _ aa) aa Zi) ?_;refine b_ ?_;refine bw (q:=j) ds rfl rfl rfl U rfl aa ?_;refine tX (E:=bW) (e:=51) (A:=I) (c:=J) (L:=B) (g:=Za) (q:=j) (a:=(⟨_,_⟩ :bh)) dN rfl rfl U aa FH ?_;refine aD ?_
 (refine bg (j+1,B.set j ⟨(jW (b0 f.l) (jD ((rows.take e).drop a) ⟨max 0 S - (a:Int),Y⟩)).row+(z.l.length:Int),(jW (b0 f.l) (jD ((rows.take e).drop a) ⟨max 0 S - (a:Int),Y⟩)).dp⟩) ⟨aa,by dsimp only;rw[fL];exact K,λp b k o=>?_,λp b k o _=>?_⟩ bm (Sub.cons rfl (Sub.cons rfl (Sub.cons rfl (Sub.cons rfl (Sub.cons rfl (mE rfl rfl rfl rfl rfl rfl rfl rfl rfl rfl)))))) (λ_ h=>h.aw ae);exact (gM j).elim (λC=>by subst C;rw[R] at b;cases b;exfalso;dsimp only at *;omega) (λy=>(N p b k o).set y);exact (gM j).elim (λC=>KM aa C (ZV)) (λy=>(V p b k o y).set y))
 refine aL ?_;refine ew (E:=cn) dM rfl rfl rfl nr (λ_ _=>jf) b7 aa (λZk Zl=>?_);refine aL ?_;refine bg ⟨i+1,⟨Zk,Zl,z.l++f.l⟩,B⟩ ⟨by dsimp only;omega,Zf.oB Zt,?_,K,e,ZL,Zq,λp b k o=>?_⟩ bm (xc rfl rfl rfl rfl rfl rfl rfl rfl) (λ_ h=>?_);dsimp only;rw[b8];omega
 dsimp only;have Zaq:1≤m:=by have:=(cY.1 b).1;omega
 rw[b8];by_cases Z1:p.row<(a:Int)
 exact (N p b k Z1).mono aa;exact V p b aa o aa;have Zx:=(h.aw (l:=[z.cj,f.cj,au 144 cn Zk Zl (z.l++f.l),au 51 bW I J B,P.au]) ae).BE
 rw[←gf] at Zx
 exact Zx.aw (l:=[au 144 cn Zk Zl (z.l++f.l),aU ((z.l++f.l).map bT.aG),au 51 bW I J B,P.au]) ae;have Z2:P.l.drop i=[]:=List.drop_eq_nil_of_le aa
 rw[Z2] at Z
 have Zar:a=n:=by
  rcases Z with ⟨_,h⟩ | ⟨M,s,h,_⟩
  exact h;exact absurd h.symm av
 refine b_ ?_;refine b1 (ι:=Nat × List bh) (λt=>[(0,.slice A n c),(8,.slice I l.length J),(9,z.val),(106,.slice X m d),(107,.int .i64 (m:Int)),(108,.int .i64 (t.1 :Int))])
  (λt=>af w [] [z.au,z.cj,au 51 bW I J t.2,P.au]) (λt=>t.1≤m∧t.2.length=m∧ ∀p,l[0]? = some p→0≤p.row→p.row<(n:Int)→Good t.2 z.l.length) (λt=>m - t.1) ?_ ?_
 exact λw' W=>⟨(0,q),⟨bP _,Zg,λp b k o=>Zh p b k aa⟩,(gC rfl rfl rfl rfl rfl rfl),W⟩
 rintro⟨j,B⟩ ⟨T,K,N⟩;dsimp only at T K N ⊢
 refine al ?_;refine aj (λZ3=>?_) (λZ3=>?_);obtain⟨⟨S,Y⟩,R⟩ : ∃p,l[j]? = some p:=⟨_,bG aa⟩;obtain⟨b2,Zd,ZT,Ze⟩:=ai.at_ R;obtain⟨Za,U⟩:=Zn aa;refine aD ?_;refine bw (q:=j) ds rfl rfl rfl Zd rfl aa ?_;refine cy (vs:=[.int .i64 S,.int .i64 Y]) dN rfl rfl rfl (λZw b j u T=>b.ct (Ze j u T) av) ?_;refine ar ?_;intro Zas Zat Zau;refine bB ?_;refine aX 118 rfl (λZm=>?_) (λZm=>?_);have Z4:=a1 Zm
 refine bI ?_;refine bw (q:=j) ds rfl rfl rfl U rfl aa ?_;refine tX (E:=bW) (e:=51) (A:=I) (c:=J) (L:=B) (g:=Za) (q:=j) (a:=(⟨(z.l.length:Int),0⟩ :bh)) dN rfl rfl U aa ns ?_;refine aD ?_;exact bg (j+1,B.set j ⟨(z.l.length:Int),0⟩) ⟨aa,by dsimp only;rw[fL];exact K,λp b k o=>(gM j).elim (λC=>by subst C;rw[R] at b;cases b;exfalso;dsimp only at *;omega) (λy=>(N p b k o).set y)⟩ bm bR (λ_ h=>h.aw ae);have Z4:=bc Zm
 refine aJ ?_;refine aj (λZ5=>?_) (λZ5=>?_);refine al ?_;refine bw (q:=j) ds rfl rfl rfl U rfl aa ?_;refine tX (E:=bW) (e:=51) (A:=I) (c:=J) (L:=B) (g:=Za) (q:=j) (a:=(⟨(z.l.length:Int),0⟩ :bh)) dN rfl rfl U aa ns ?_;refine aD ?_;exact bg (j+1,B.set j ⟨(z.l.length:Int),0⟩) ⟨aa,by dsimp only;rw[fL];exact K,λp b k o=>(gM j).elim (λC=>by subst C;rw[R] at b;cases b;exfalso;dsimp only at *;omega) (λy=>(N p b k o).set y)⟩ bm bR (λ_ h=>h.aw ae);refine aD ?_;exact bg (j+1,B) ⟨aa,K,N⟩ bm bR (λ_ h=>h.aw ae);refine cI ?_;intro Zav Z6;exact aO.bQ (z,⟨I,J,B⟩) ⟨Zf,by dsimp only;omega,K,N⟩ (by rw[show l.length=B.length by omega]) (Z6.aw ae)
theorem Yx (w:World) (F:Nat→Prop) (A:Option Addr) (n c:Nat) (rows:List bS) (e:eu w F A n c rows) (G:n≤1000000000) (p: ∀r∈rows,r.1.length≤1000000) (row:Int) (H:0≤row∧row≤1000000000000):Calls prog 194 [.slice A n c,.int .i64 row].toArray w
 (cf (λk:Nat=> .slice A k c) (λk=>k≤n∧(row<(n:Int)→row<(k:Int))) w):=by
 have I:=e.len
 have J:=e.xm
 refine aW func194 ntmps194 ?_;refine aD ?_;refine b1 (ι:=Nat) (λk=>[(0,.slice A k c),(1,.int .i64 row)]) (λ_=>af w [] []) (λk=>k≤n∧(row<(n:Int)→row<(k:Int))) (λk=>k) ?_ ?_;exact λw' s=>⟨n,⟨ch _,λh=>h⟩,(iJ rfl rfl),s⟩
 rintro k ⟨i,j⟩;obtain⟨cs,b2,a,m,d,b⟩ : ∃(cs:List bj) (b2:Addr) (a:Option Addr) (m d:Nat),row+1<(k:Int)→A=some b2∧w.cell? ((b2.add ((k - 1)*2)).add 0)=some (.slice a m d)∧F b2.block∧Rd bJ w F a m d cs∧m≤1000000:=by
  by_cases t:row+1<(k:Int)
  obtain⟨⟨cs,K⟩,l⟩ : ∃v,rows[k - 1]? = some v:=⟨_,bG aa⟩;have L:cs.length≤1000000:=p _ (dc l)
  obtain⟨b2,a,m,d,u,x,y,o⟩:=e.at_ l;have M:cs.length=m:=o.len
  exact⟨cs,b2,a,m,d,λ_=>⟨u,y 0 _ rfl,x,o,aa⟩⟩;exact⟨[],⟨0,0,none⟩,none,0,0,λh=>absurd h t⟩
 refine aJ ?_;refine aX 10 rfl (λf=>?_) (λf=>?_);have z:=a1 f
 refine aJ ?_;refine bw (q:=k - 1) dM rfl rfl rfl (b aa).1 aa aa ?_;refine ah ?_;refine a7 (v:= .slice a m d) sk rfl rfl (λN B=>B.ct (b aa).2.1 av) ?_;refine ar ?_;refine ao rfl EW rfl (λC D=>FS C F a m d cs ((b aa).2.2.2.1.ext D.ext av) (b aa).2.2.2.2) ?_;refine ax ?_;refine aj (λaK=>?_) (λaK=>?_);refine aL ?_;refine ft 0 (k - 1) dM rfl rfl (.inr ⟨rfl,rfl⟩) (.inl ⟨_,_,rfl,rfl,aa⟩) aa aa ?_;refine ah ?_;exact bg (k - 1) ⟨aa,λ_=>by omega⟩ aa (Sub.cons (by rw[kn,kn,vQ];rfl) (up rfl)) (λ_ h=>h);refine bI ?_;intro E g;exact cf.of k ⟨i,j⟩ rfl g.ext;have z:=bc f
 refine lR ?_;intro E g;exact cf.of k ⟨i,j⟩ rfl g.ext
theorem af.Yy {b w:World} {S:List Nat} {cs cs' l:List Chunk} (h:af b S cs w) (a:aB cs l cs') {k:Nat} (c:k∈aA l) (d:k<b.heap.size):k∈S:=
 (h.perm a.perm).ei k (by rw[iG];exact oc _ c) d
theorem Yz (w:World) (r:dj) (S:a8 w (cd r)) (G:cU r) (F:Nat→Prop) (A:Option Addr) (n c:Nat) (rows:List bS) (H:eu w F A n c rows) (f: ∀k,F k→k∉aA (cd r)) (Zg:n≤1000000000) (T: ∀x∈rows,x.1.length≤1000000):
 Calls prog 195 [ptr r.g,.slice A n c].toArray w (aO (λi:Int × dj=> .int .i64 i.1) (cd r) (λi=>cd i.2) (λi=>i.2.g=r.g∧i.2.room=r.room∧cU i.2∧ ∀x∈i.2.rows,x∈rows) w):=by
 have Zh:=H.len
 have U:=H.hI
 obtain⟨g,eN,room,I,J,gone⟩:=r;have K:=G.room
 have L:=G.gone
 dsimp only at K L
 refine bC func195 ntmps195 S ?_;refine Pp ?_;refine cL (H':=af w (aA (cd ⟨g,eN,room,I,J,gone⟩)) (cd ⟨g,⟨none,0,[]⟩,room,0,0,gone⟩)) ?_ (Sub.refl _) (λx a=>(((a.aw (l:=[dj.an ⟨g,⟨none,0,[]⟩,room,0,0,gone⟩]) ae).eO 144 cn).tr).aw ae);refine et ?_;refine b1 (ι:=Nat × dj) (λt=>[(0,ptr g),(5,.int .u64 gone),(23,.slice A n c),(24,.int .i64 (n:Int)),(25,.int .i64 (t.1 :Int))]) (λt=>af w (aA (cd ⟨g,eN,room,I,J,gone⟩)) (cd t.2)) (λt=>t.1≤n∧t.2.g=g∧t.2.room=room∧cU t.2∧ ∀x∈t.2.rows,x∈rows) (λt=>n - t.1) ?_ ?_;exact λw' V=>⟨(0,⟨g,⟨none,0,[]⟩,room,0,0,gone⟩),⟨bP _,rfl,rfl,⟨by show ((0 :Nat):Int)≤room;omega,K,⟨fQ 0,fQ 0⟩,⟨fQ 0,.inr rfl⟩,L⟩,λx a=>by simp[dj.rows] at a⟩,(ea rfl rfl rfl rfl rfl),V⟩
 rintro⟨i,⟨o,p,nJ,s,z,B⟩⟩ ⟨hi,M,N,b,C⟩;dsimp only at hi M N b C ⊢
 subst M N;have W:=b.gone
 dsimp only at W
 refine al ?_;refine aj (λX=>?_) (λX=>?_);obtain⟨⟨cs,O⟩,D⟩ : ∃v,rows[i]? = some v:=⟨_,bG aa⟩;have Zi:cs.length≤1000000:=T _ (dc D)
 obtain⟨b2,P,m,d,Y,Z,Za,Q⟩:=U.at_ D;have Zj:cs.length=m:=Q.len
 refine al ?_;refine bw (q:=i) dM rfl rfl rfl Y rfl aa ?_;refine cy (vs:=[.slice P m d,.bool O]) gP rfl rfl rfl (λZk Zb j u Zc=>Zb.ct (Za j u Zc) (by rw[block_add,block_add];exact f _ Z.1)) ?_;refine ar ?_;intro Zl Zm Zn;refine al ?_;refine aY (l0:=cd ⟨o,p,nJ,s,z,B⟩) ae rfl zY rfl (λZd E=>AU Zd ⟨o,p,nJ,s,z,B⟩ (E.bo ae) b _ P m d cs O (Q.ext E.ext (λk e=>f k e.1)) (λk e Ze=>f k e.1 (E.Yy ae Ze e.2)) aa) (λx a=>?_);refine aD ?_;refine bg (i+1,x.2) ⟨aa,a.1,a.2.1,a.2.2.1,λy R=>?_⟩ bm (ea rfl rfl rfl rfl rfl) (λ_ h=>h.aw ae);rw[a.2.2.2.1] at R
 exact (Gr R).elim (λh=>C y h) (λh=>by rw[h];exact dc D);refine bB ?_;refine gN rfl rfl rfl rfl ?_;refine dm rfl rfl underlying32 underlying3 rfl ?_;refine ax ?_;intro Zo Zf;exact aO.bQ (_,⟨o,p,nJ,s,z,B⟩) ⟨rfl,rfl,b,C⟩ rfl (Zf.aw ae)
end Go.Proofs.YtoghoobfpcadbaaGreatDoor.Mq
namespace Go.Proofs.YtoghoobfpcadbaaGreatDoor.Mq
open Go Go.RowKit Go.Proofs
theorem YA {w:World} {r:dd} (i:r.au.pred w) {lo:Nat} (j:lo≤r.l.length) (m: (aU ((r.l.take lo).map bT.aG)).pred w):eu w (λk=>k∈aA [r.au,aU ((r.l.take lo).map bT.aG)]) r.A lo r.c (b0 (r.l.take lo)):=by
 have n:w.ownsRow 0 144 lf.sz r.val r.l.length (lf.all (r.l.map bT.uV)):=by
  have:w.ownsRow 0 144 2 r.val r.l.length (cn.all r.l):=i
  rw[F9] at this;exact this
 obtain⟨A,c,o,s⟩:=Rd.ga (E:=lf) n av;injection o with t D u
 subst t u;have b:=s.cut (p:=0) (q:=lo) (bP _) j
 rw[kn,kn,pq,←List.map_take] at b
 rw[show (if r.c=0 then r.A else r.A.map (λx=>x.add (0*lf.sz)))=r.A from vQ r.A r.c] at b
 refine⟨_,b.dJ (λk a=>e3.2 ⟨r.au,by simp,i_.2 a⟩),by simp;rfl,λk x row a e=>?_⟩;rw[eJ] at a e
 cases f: (r.l.take lo)[k]? with
 | none=>rw[f] at a;cases a
 | some g=>
  rw[f] at a e
  cases a;cases e
  have h:g.aG∈(r.l.take lo).map bT.aG:=dX.2 ⟨g,dc f,rfl⟩
  have v:=m g.aG h
  obtain⟨F,d,y,z⟩:=uW v;injection y with B G C
  subst B C;exact z.dJ (λk a=>e3.2 ⟨aU ((r.l.take lo).map bT.aG),by simp,e3.2 ⟨g.aG,h,i_.2 a⟩⟩)
theorem af.y3 {b w:World} {S:List Nat} {cs l1 l2:List Chunk} (h:af b S (aU (l1++l2)::cs) w):af b S (aU l1::aU l2::cs) w:=by
 have a:=h.lb
 rw[fh] at a
 have c:=a.close'
 have d:af b S (l2++(aU l1::cs)) w:=c.perm List.perm_middle.symm
 exact d.close'.perm (List.Perm.swap _ _ _)
theorem KO (g i:Nat): ((⟨g,0,none⟩ :Addr).add (1*2)).add (i*2)=(⟨g,0,none⟩ :Addr).add ((i+1)*bW.sz):=by
 show _=(⟨g,0,none⟩ :Addr).add ((i+1)*2)
 rw[Addr.add_lit,Addr.add_lit,Addr.add_lit];congr 1
 omega
theorem KP {cols:Int} (h:2≤cols∧cols≤1000): ((nQ cols).1.length:Int)=cols∧gL (nQ cols).1:=by
 unfold nQ lj;refine⟨by rw[hd];omega,λc a=>?_⟩;rw[(ui.1 a).2];exact bP _
abbrev wl (q:dl):Value:= .slice (if q.c=1 then q.A else q.A.map (λx=>x.add (1*2))) (q.l.length - 1) (q.c - 1)
structure Dj (p:bq) (rows cols:Int) (m:Nat) (i:bh × dl × bq):Prop where
 g:i.2.2.g=p.g
 r:cU i.2.2.r
 room:i.2.2.r.room=p.r.room
 P:c7 i.2.2.abs
 high: (i.2.2.s.l.length:Int)=rows
 wd:i.2.2.cols=cols
 be:i.2.2.be.l.length≤1
 y:0≤i.1.row∧i.1.row<rows
 x:0≤i.1.dp∧i.1.dp≤cols
 pl:i.2.1.l.length=m+1
end Go.Proofs.YtoghoobfpcadbaaGreatDoor.Mq
