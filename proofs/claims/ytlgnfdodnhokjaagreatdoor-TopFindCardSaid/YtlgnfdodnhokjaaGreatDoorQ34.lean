/- part 34 of the proof -/
import Derived.Test.YtlgnfdodnhokjaaGreatDoorQ33
namespace Go.Proofs.YtlgnfdodnhokjaaGreatDoor.Mq
open Go Go.RowKit Go.Proofs Tryz
theorem v8 (A:Option Addr) (c:Nat): (if c=0 then A else A.map (λx=>x.add (0*2)))=A:=by
 split
 rfl
 cases A with
 | none=>rfl
 | some a=>simp[Addr.add]
theorem bA.CT {α:Type} (E:bA α) (l:List α) (j:Nat):E.all (l.take j)=(E.all l).take (j*E.sz):=by
 conv=>rhs;rw[←iF j l,E.all_append]
 by_cases h:j≤l.length
 rw[sc (by rw[E.dI,dl,iG h])];rw[ev (l:=l) aa,ol aa];show _=(E.all l++[]).take _
 rw[eu,ev (by rw[E.dI];exact k1 _ aa)]
theorem WP {w:World} {A:Option Addr} {c j:Nat} {L:List aY} (a:j≤L.length) (h: (Mq.au 35 cf A c L).pred w): (Mq.au 35 cf A c (L.take j)).pred w:=by
 have b:=CQ (e:=35) (sz:=cf.sz) a h
 rw[←bA.CT] at b
 show w.ownsRow 0 _ _ (.slice A (L.take j).length c) (L.take j).length _
 rw[dl,iG a];exact b
theorem WQ (w:World) (s:hz) (N:a8 w (gb s)) (B:rO s) (x:eh):Calls prog 75 [ptr s.g,rN x].toArray w (CP s (.tuple #[]) w):=by
 have o:=B.len
 have r:=B.most
 obtain⟨g,⟨A,c,l⟩,most⟩:=s;dsimp only at o r
 refine bI func75 ntmps75 N ?_;refine ah ?_;intro H Zg Zh;refine bp ?_;refine ao rfl wZ rfl (λn C=>yU n x) ?_;refine ay ?_;refine b1 rfl (λO=>?_) (λO=>?_);refine ah ?_;intro P D;exact aN ⟨g,⟨A,c,l⟩,most⟩ ⟨rfl,rfl,B⟩ D;refine aK ?_;refine fz 0 0 dD rfl rfl (.inr ⟨rfl,rfl⟩) (.inl ⟨_,_,rfl,rfl,rfl⟩) aa aa ?_;rw[v8];refine cF ?_;refine b2 (ι:=Nat × Nat × List aY) (λt=>[(0,ptr g),(3,ptr H),(4,.slice A t.2.1 c),(22,.slice A l.length c),(23,.int .i64 (l.length:Int)),(24,.int .i64 (t.1 :Int))]) (λt=>af w (aB (gb ⟨g,⟨A,c,l⟩,most⟩)) [aD H x.enc 180,aD g [.slice A l.length c,.int .i64 most] 166,own 35 cf.sz (.slice A l.length c) l.length (cf.all t.2.2)]) (λt=>t.1≤l.length∧t.2.1≤t.1∧t.2.2.length=l.length) (λt=>l.length - t.1) ?_ ?_;exact λw' Q=>⟨(0,0,l),⟨bP _,bW _,rfl⟩,(ip rfl rfl rfl rfl rfl rfl),Q⟩
 rintro⟨i,j,L⟩ ⟨hi,R,p⟩;dsimp only at hi R p ⊢
 obtain⟨W,I⟩ : ∃W,W=aB (gb ⟨g,⟨A,c,l⟩,most⟩):=⟨_,rfl⟩;unfold CP;have S: ∀(v:Value) (y:hz) (w':World),vZ ⟨g,⟨A,c,l⟩,most⟩ y→af w W (gb y) w'→aP (λ_:hz=>v) (gb ⟨g,⟨A,c,l⟩,most⟩) gb (vZ ⟨g,⟨A,c,l⟩,most⟩) w (.returned v) w':=λv y w' o r=>aP.bQ y o rfl (I▸r)
 rw[←I];refine al ?_;refine aj (λT=>?_) (λT=>?_);obtain⟨⟨b,d⟩,U⟩ : ∃v,L[i]? = some v:=⟨L[i]'aa,bE _⟩;refine hE (e:=35) (sz:=2) (v:= .slice A l.length c) cr (λZi Zj J Zk _ _ V=>?_);obtain⟨z,X⟩:=V aa;have f:A=some ⟨z,0,none⟩:=by injection J with K Y Z;exact K.trans X
 have M:l.length≤c:=by injection J with K Y Z;omega
 refine al ?_;refine bC (q:=i) dD rfl rfl rfl f rfl aa ?_;refine cx (vs:=aY.enc ⟨b,d⟩) eg rfl rfl rfl (λZa o k u Zb=>(show af _ _ [_,_,own 35 cf.sz (.slice (some ⟨z,0,none⟩) l.length c) l.length (cf.all L)] Za from f▸o).k5 (E:=cf) (Has.tail (Has.tail Has.head)) U k u Zb) ?_;refine ar ?_;intro Zl Zm Zn;refine aQ ?_;refine aW 31 rfl (λF=>?_) (λF=>?_);have Zc:=aX F
 refine ay ?_;refine ao rfl zX rfl (λn C=>CM n ⟨b,d⟩ x) ?_;refine ah ?_;refine aj (λaH=>?_) (λaH=>?_);simp only[bZ] at aH
 refine aK ?_;exact bi (i+1,j,L) ⟨aa,by dsimp only;omega,p⟩ bm bR (λ_ h=>h.ax ae);simp only[bZ] at aH
 refine al ?_;refine ao rfl zW rfl (λn C=>CN n ⟨b,d⟩ x) ?_;refine ar ?_;intro G Zd Ze;refine J6 (E:=cf) (te:=35) (g:=z) (j:=j) (m:=l.length) (a:=lA ⟨b,d⟩ x) (xs:=cf.all L) dD rfl (by rw[←f];rfl) rfl aT aa M (by rw[←f];exact jk) ?_;rw[←f];refine aK ?_
 (have _:=G;refine bi (i+1,j+1,L.set j (lA ⟨b,d⟩ x)) ⟨aa,by dsimp only;omega,by simpa using p⟩ bm (ip rfl rfl rfl rfl rfl rfl) (λ_ h=>?_);rw[show 2=cf.sz from rfl,bA.je cf (lA ⟨b,d⟩ x) (show j<L.length by omega)] at h;exact h.ax ae)
 have Zc:=bd F
 refine bH ?_;refine ao rfl zW rfl (λn C=>CN n ⟨b,d⟩ x) ?_;refine ar ?_;intro G Zd Ze;refine J6 (E:=cf) (te:=35) (g:=z) (j:=j) (m:=l.length) (a:=lA ⟨b,d⟩ x) (xs:=cf.all L) dD rfl (by rw[←f];rfl) rfl aT aa M (by rw[←f];exact jk) ?_;rw[←f];refine aK ?_
 (have _:=G;refine bi (i+1,j+1,L.set j (lA ⟨b,d⟩ x)) ⟨aa,by dsimp only;omega,by simpa using p⟩ bm (ip rfl rfl rfl rfl rfl rfl) (λ_ h=>?_);rw[show 2=cf.sz from rfl,bA.je cf (lA ⟨b,d⟩ x) (show j<L.length by omega)] at h;exact h.ax ae)
 refine bH ?_;intro P D;refine S _ ⟨g,⟨A,c,L.take j⟩,most⟩ _ ⟨rfl,rfl,by show (((L.take j).length:Nat):Int)≤most;rw[dl];omega,r⟩ ?_;have Zf: (L.take j).length=j:=by rw[dl];omega
 simp only[gb,hz.an,CO,ee.val,ee.au,Zf];exact (D.conv (c:=own 35 cf.sz (.slice A l.length c) l.length (cf.all L)) (c':=Mq.au 35 cf A c (L.take j)) lf (by cases A <;> rfl) (λh=>WP aa (by show World.ownsRow _ 0 _ _ (.slice A L.length c) L.length _;rw[p];exact h))).ax ae
end Go.Proofs.YtlgnfdodnhokjaaGreatDoor.Mq
namespace Go.Proofs.YtlgnfdodnhokjaaGreatDoor.Mq
open Go Go.RowKit Go.Proofs
abbrev eq (p:aY):Prop:=(0≤p.row∧p.row≤4398046511104)∧0≤p.cM∧p.cM≤4398046511104
theorem WR {p:aY} (h:eq p) (s:eh):eq (lA p s):=by
 unfold lA;have d:dZ s→0≤ib s∧ib s≤1099511627776:=λh=>by unfold ib;split <;> simp only[dZ,dO] at h <;> omega
 split
 exact h;rename_i a;have b:dk p∧dZ s∧ib s≤p.row:=⟨Classical.byContradiction λc=>a (.inl c),Classical.byContradiction λc=>a (.inr (.inl c)),aa⟩
 have e:=d b.2.1
 simp only[dk,dZ,dO] at b
 split
 exact⟨by dsimp only;omega,by dsimp only;omega⟩;split
 exact⟨by dsimp only;omega,by dsimp only;omega⟩;exact⟨by dsimp only;omega,by dsimp only;omega⟩
structure er where
 code:Int
 has:Bool
 cut:Bool
 dir:List UInt8
 line:List UInt8
 id:Int
 pl:List aY
structure e8 where
 blocks:List er
 most:Int
 ids:Int
 dir:List UInt8
structure lB where
 kind:Int
 code:Int
 has:Bool
 text:List UInt8
def hA (e:er):aY:=e.pl.getLastD ⟨0,0⟩
def gM (e:er) (n:Nat) (at_:aY):er:={ e with pl:=e.pl++List.replicate (n - e.pl.length) at_ }
def gN (s:e8) (n:Nat) (at_:aY):e8:=
 let b:=s.blocks++[⟨0,false,false,s.dir,[],s.ids+1,List.replicate n at_⟩]
 { s with ids:=s.ids+1,blocks:=if s.most<b.length then b.tail else b }
def setLast (l:List er) (f:er→er):List er:=match l.getLast? with
 | some e=>l.dropLast++[f e]
 | none=>l
def pu (s:e8) (a b:Nat):Bool:=match s.blocks.getLast? with
 | some e=>decide (a≤e.pl.length) && decide (e.pl.length≤b)
 | none=>false
def jx (s:e8) (f:er→er):e8:={ s with blocks:=setLast s.blocks f }
def lC (s:e8) (a:aY):aY:=match s.blocks.getLast? with
 | some e=>ix a (hA e)
 | none=>a
def gu (s:e8) (x:lB) (a:aY):e8:=
 if ¬dk a then s else
 if x.kind=1 then gN s 1 (lC s a) else
 if x.kind=2 then (if pu s 1 1=true then jx s (λe=>gM e 2 (lC s a)) else gN s 2 (lC s a)) else
 if x.kind=3 then (if pu s 1 2=true then jx s (λe=>gM e 3 (lC s a)) else gN s 3 (lC s a)) else
 if x.kind=4 then (if pu s 1 3=true then jx s (λe=>{ gM e 4 (lC s a) with code:=x.code,has:=x.has }) else s) else
 if x.kind=5 then (if pu s 1 3=true then jx s (λe=>{ e with line:=x.text }) else s) else
 if x.kind=6 then (if pu s 1 2=true then jx { s with dir:=x.text } (λe=>{ e with dir:=x.text }) else { s with dir:=x.text }) else s
def mr (e:er):aY:=e.pl.headD ⟨0,0⟩
def jR (x:eh):List er→List er
 | a::b::l=>if qw (mr a) x=true∧eA ⟨x.n,0⟩ (mr b)=false then jR x (b::l) else a::b::l
 | l=>l
def rP (x:eh) (e:er):er:={ e with cut:=e.cut || qw (mr e) x }
def v_ (x:eh) (e:er):er:={ e with pl:=e.pl.map (λp=>lA p x) }
def rQ (s:e8) (x:eh):e8:=
 if ¬dZ x then s else
 { s with blocks:=(if x.kind=2 then (jR x s.blocks).map (rP x) else s.blocks).map (v_ x) }
def wa (l:List er):List aY:=l.flatMap (·.pl)
structure fd where
 id:Int
 phase:Int
 start:aY
 input:aY
 output:aY
 done:aY
 stop:aY
 code:Int
 has:Bool
 cut:Bool
 dir:List UInt8
 line:List UInt8
def ms (e:er) (stop:aY):fd:=⟨e.id,e.pl.length,e.pl.getD 0 stop,e.pl.getD 1 stop,e.pl.getD 2 stop,e.pl.getD 3 stop,stop,e.code,e.has,e.cut,e.dir,e.line⟩
def hb (p:aY):fd:=⟨0,0,⟨0,0⟩,p,p,p,p,0,false,false,[],[]⟩
def jS (a:aY):List er→List fd
 | []=>[]
 | [e]=>[ms e a]
 | e::f::l=>ms e (mr f)::jS a (f::l)
def lD (s:e8) (a:aY):List fd:=match s.blocks with
 | []=>[hb a]
 | e::l=>hb (mr e)::jS (ix a (hA ((e::l).getLastD e))) (e::l)
def kl (s:e8) (id:Int) (a:aY):Option fd:=(lD s a).find? (λb=>decide (b.id=id))
structure iX (e:er) (ids:Int):Prop where
 pl:1≤e.pl.length∧e.pl.length≤4
 pos: ∀p∈e.pl,eq p
 id:1≤e.id∧e.id≤ids
 oc:e.dir.length≤256∧e.line.length≤256
structure iY (s:e8) (N:Int):Prop where
 most:1≤s.most∧s.most≤10000
 len: (s.blocks.length:Int)≤s.most
 ids:0≤s.ids∧s.ids≤N
 gO: ∀e∈s.blocks,iX e s.ids
 qz:s.blocks.Pairwise (λa b=>a.id<b.id)
 dir:s.dir.length≤256
theorem iX.mono {e:er} {a b:Int} (h:iX e a) (c:a≤b):iX e b:=⟨h.pl,h.pos,by have:=h.id;omega,h.oc⟩
theorem iY.mono {s:e8} {a b:Int} (h:iY s a) (c:a≤b):iY s b:=⟨h.most,h.len,by have:=h.ids;omega,h.gO,h.qz,h.dir⟩
theorem yX {s:e8} {N:Int} (h:iY s N) {n:Nat} (g:1≤n∧n≤4) {p:aY} (ai:eq p):iY (gN s n p) (N+1):=by
 have i:=h.most;have m:=h.len;have hi:=h.ids
 have j:iX ⟨0,false,false,s.dir,[],s.ids+1,List.replicate n p⟩ (s.ids+1):=⟨by simpa using g,λq k=>(ng k).symm▸ai,by dsimp only;omega,by simpa using h.dir⟩
 have c: ∀e∈s.blocks++[⟨0,false,false,s.dir,[],s.ids+1,List.replicate n p⟩],iX e (s.ids+1):=λe he=>by
  rcases cZ.1 he with he | he
  exact (h.gO e he).mono aa;rw[eb] at he;exact he▸j
 have d: (s.blocks++[(⟨0,false,false,s.dir,[],s.ids+1,List.replicate n p⟩ :er)]).Pairwise (λa b=>a.id<b.id):=
  List.pairwise_append.2 ⟨h.qz,List.pairwise_singleton _ _,λa l b f=>by
   rw[eb] at f;subst f
   have:=(h.gO a l).id
   dsimp only;omega⟩
 unfold gN;refine⟨i,?_,⟨by dsimp only;omega,by dsimp only;omega⟩,?_,?_,h.dir⟩;dsimp only;split
 rw[List.length_tail];rw[b6,jY] at *;omega
 omega
 dsimp only;intro e he;split at he
 exact c e (List.mem_of_mem_tail he);exact c e he;dsimp only;split
 exact d.sublist (List.tail_sublist _);exact d
theorem wb {s:e8} {N:Int} (h:iY s N) {f:er→er} (hid: ∀e,(f e).id=e.id) (n: ∀e∈s.blocks,s.blocks.getLast?=some e→iX (f e) s.ids):iY (jx s f) N:=by
 unfold jx setLast;cases d:s.blocks.getLast? with
 | none=>exact⟨h.most,h.len,h.ids,h.gO,h.qz,h.dir⟩
 | some e=>
  have j:s.blocks=s.blocks.dropLast++[e]:=by
   have k:s.blocks≠[]:=λo=>by rw[o] at d;cases d
   rw[wC k] at d
   cases d
   exact (List.dropLast_concat_getLast k).symm
  have i:=h.len
  have l:=h.gO
  have g:=h.qz
  have p:e∈s.blocks:=by rw[j];simp
  rw[j] at i l g
  refine⟨h.most,by dsimp only;rw[b6,jY] at i ⊢;exact i,h.ids,λx c=>?_,?_,h.dir⟩;rcases cZ.1 c with c | c
  exact l x (cZ.2 (.inl c));rw[eb] at c;exact c▸n e p d
  rw[List.pairwise_append] at g ⊢
  exact⟨g.1,List.pairwise_singleton _ _,λa q b m=>by
   rw[eb] at m;subst m
   rw[hid];exact g.2.2 a q e av⟩
theorem CU {e:er} {N:Int} (h:iX e N):eq (hA e):=by
 unfold hA;cases a:e.pl.getLast? with
 | none=>rw[List.getLast?_eq_none_iff] at a;have:=h.pl;rw[a] at this;simp at this
 | some p=>rw[List.getLastD_eq_getLast?,a];exact h.pos p (ut a)
theorem CV {a b:aY} (h:eq a) (k:eq b):eq (ix a b):=by unfold ix;split <;> assumption
theorem yY {p:aY} (h:dk p):eq p:=by simp only[dk,dO] at h;exact⟨aa,aa⟩
theorem WS {s:e8} {N:Int} (h:iY s N) {p:aY} (ai:eq p):eq (lC s p):=by
 unfold lC;split
 rename_i e a;exact CV ai (CU (h.gO e (ut a)))
 exact ai
theorem CW {e:er} {N:Int} (h:iX e N) {n:Nat} (b:n≤4) {p:aY} (ai:eq p):iX (gM e n p) N:=by
 have:=h.pl
 refine⟨by simp only[gM,b6,hj];omega,λq a=>?_,h.id,h.oc⟩;rcases cZ.1 a with a | a
 exact h.pos q a;exact (ng a).symm▸ai
theorem WT {s:e8} {N:Int} (h:iY s N) (x:lB) (d:x.text.length≤256) (p:aY):iY (gu s x p) (N+1):=by
 have b:iY s (N+1):=h.mono aa
 unfold gu;split
 exact b;rename_i g;have ai:eq (lC s p):=WS h (yY (Classical.byContradiction g))
 split
 exact yX h ⟨aZ,aZ⟩ ai;split
 split
 exact wb b (λ_=>rfl) (λe a _=>CW (h.gO e a) aZ ai);exact yX h ⟨aZ,aZ⟩ ai;split
 split
 exact wb b (λ_=>rfl) (λe a _=>CW (h.gO e a) aZ ai);exact yX h ⟨aZ,aZ⟩ ai;split
 split
 exact wb b (λ_=>rfl) (λe a _=>by
  have c:=CW (h.gO e a) (n:=4) aZ ai
  exact⟨c.pl,c.pos,c.id,c.oc⟩)
 exact b;split
 split
 exact wb b (λ_=>rfl) (λe a _=>⟨(h.gO e a).pl,(h.gO e a).pos,(h.gO e a).id,(h.gO e a).oc.1,d⟩);exact b;split
 have f:iY { s with dir:=x.text } (N+1):=⟨h.most,h.len,b.ids,h.gO,h.qz,d⟩
 split
 exact wb f (λ_=>rfl) (λe a _=>⟨(h.gO e a).pl,(h.gO e a).pos,(h.gO e a).id,d,(h.gO e a).oc.2⟩);exact f;exact b
theorem CX (x:eh): ∀l,(jR x l).Sublist l
 | []=>List.Sublist.refl _
 | [_]=>List.Sublist.refl _
 | a::b::l=>by
  unfold jR;split
  exact (CX x (b::l)).cons a;exact List.Sublist.refl _
theorem WU {s:e8} {N:Int} (h:iY s N) (x:eh):iY (rQ s x) N:=by
 unfold rQ;split
 exact h;have f: ∀e,iX e s.ids→iX (rP x e) s.ids:=λe h=>⟨h.pl,h.pos,h.id,h.oc⟩
 have g: ∀e,iX e s.ids→iX (v_ x e) s.ids:=λe h=>⟨by simpa [v_] using h.pl,λp ai=>by
  obtain⟨q,i,rfl⟩:=dH.1 ai;exact WR (h.pos q i) x,h.id,h.oc⟩
 have b:=CX x s.blocks
 refine⟨h.most,?_,h.ids,λe j=>?_,?_,h.dir⟩;dsimp only;rw[cB];have:=b.length_le
 have:=h.len
 split
 rw[cB];omega
 omega
 obtain⟨a,d,rfl⟩:=dH.1 j;refine g a ?_;split at d
 obtain⟨c,k,rfl⟩:=dH.1 d;exact f c (h.gO c (b.subset k));exact h.gO a d;dsimp only;rw[qL];split
 rw[qL];exact h.qz.sublist b;exact h.qz
theorem CY (q:aY): ∀l,(jS q l).map (·.id)=l.map (·.id)
 | []=>rfl
 | [_]=>rfl
 | e::f::l=>by
  have:=CY q (f::l)
  simp only[jS,lM] at this ⊢
  rw[this];rfl
structure qA (b:fd):Prop where
 start:eq b.start
 input:eq b.input
 output:eq b.output
 done:eq b.done
 stop:eq b.stop
 oc:b.dir.length≤256∧b.line.length≤256
theorem yZ {l:List aY} {q:aY} (h: ∀p∈l,eq p) (a:eq q) (i:Nat):eq (l.getD i q):=by
 rw[fI];cases hi:l[i]? with
 | none=>exact a
 | some p=>exact h p (da hi)
theorem Kb {e:er} {N:Int} (h:iX e N):eq (mr e):=by
 unfold mr;cases ai:e.pl with
 | nil=>have:=h.pl;rw[ai] at this;simp at this
 | cons p l=>exact h.pos p (by rw[ai];simp)
theorem Kc {e:er} {N:Int} (h:iX e N) {q:aY} (a:eq q):qA (ms e q):=
 ⟨yZ h.pos a 0,yZ h.pos a 1,yZ h.pos a 2,yZ h.pos a 3,a,h.oc⟩
theorem Kd {N:Int} {q:aY} (c:eq q): ∀l:List er,(∀e∈l,iX e N)→ ∀b∈jS q l,qA b
 | [],_,b,a=>by cases a
 | [e],h,b,a=>by
  rw[jS,eb] at a
  exact a▸Kc (h e av) c
 | e::f::l,h,b,a=>by
  rw[jS] at a
  rcases e1.1 a with rfl | a
  exact Kc (h e av) (Kb (h f av));exact Kd c (f::l) (λx d=>h x (ur _ d)) b a
theorem WV {s:e8} {N:Int} (h:iY s N) {q:aY} (d:eq q): ∀b∈lD s q,qA b:=by
 have j:eq ⟨0,0⟩:=⟨⟨aZ,aZ⟩,aZ,aZ⟩
 have g: ∀p,eq p→qA (hb p):=λp ai=>⟨j,ai,ai,ai,ai,by simp[hb],by simp[hb]⟩
 unfold lD;intro b a;split at a
 rw[eb] at a;exact a▸g q d
 rename_i e l k;have c: ∀x∈e::l,iX x s.ids:=λx m=>h.gO x (k▸m)
 rcases e1.1 a with rfl | a
 exact g _ (Kb (c e av));refine Kd (CV d (CU (c _ ?_))) _ c b a;rw[List.getLastD_cons];rcases l with _ | ⟨f,l⟩
 simp
 exact ur _ (by rw[List.getLastD_eq_getLast?];cases i: (f::l).getLast? with
  | none=>simp at i
  | some z=>exact ut i)
theorem Ke {s:e8} (q:aY): (lD s q).length=s.blocks.length+1:=by
 unfold lD;split
 rename_i h;rw[h];rfl
 rename_i e l h;have:=aU List.length (CY (ix q (hA ((e::l).getLastD e))) (e::l))
 rw[cB,cB] at this
 rw[h,eO,this]
end Go.Proofs.YtlgnfdodnhokjaaGreatDoor.Mq
namespace Go.Proofs.YtlgnfdodnhokjaaGreatDoor.Mq
open Go Go.RowKit Go.Proofs Tryz
structure bb where
 g:Nat
 code:Int
 has:Bool
 cut:Bool
 dir:List UInt8
 line:List UInt8
 id:Int
 b_:aY
 dP:aY
 gk:aY
 m8:aY
 br:Nat
abbrev kX (e:bb):List Value:=[.int .i64 e.code,.bool e.has,.bool e.cut,.string (bs e.dir),.string (bs e.line),.int .u64 e.id,.int .i64 e.b_.row,.int .i64 e.b_.cM,.int .i64 e.dP.row,.int .i64 e.dP.cM,.int .i64 e.gk.row,.int .i64 e.gk.cM,.int .i64 e.m8.row,.int .i64 e.m8.cM,.int .i64 (e.br:Int)]
abbrev bb.an (e:bb):Chunk:=aD e.g (kX e) 194
def bb.at_ (e:bb) (i:Nat):aY:=match i with | 0=>e.b_ | 1=>e.dP | 2=>e.gk | _=>e.m8
def bb.set (e:bb) (i:Nat) (p:aY):bb:=match i with | 0=>{ e with b_:=p } | 1=>{ e with dP:=p } | 2=>{ e with gk:=p } | _=>{ e with m8:=p }
def bb.pl (e:bb):List aY:=[e.b_,e.dP,e.gk,e.m8].take e.br
def bb.abs (e:bb):er:=⟨e.code,e.has,e.cut,e.dir,e.line,e.id,e.pl⟩
theorem Kf (e:bb) (i:Nat) (p:aY) (h:i<4):df (kX e) (6+i*2) p.enc=kX (e.set i p):=by
 match i,h with
 | 0,_=>rfl
 | 1,_=>rfl
 | 2,_=>rfl
 | 3,_=>rfl
theorem CZ (e:bb) (i:Nat) (h:i<4): ∀j u,(e.at_ i).enc[j]? = some u→(kX e)[6+i*2+j]? = some u:=by
 intro j u a;match j with
 | 0=>cases a;match i,h with
  | 0,_=>rfl
  | 1,_=>rfl
  | 2,_=>rfl
  | 3,_=>rfl
 | 1=>cases a;match i,h with
  | 0,_=>rfl
  | 1,_=>rfl
  | 2,_=>rfl
  | 3,_=>rfl
 | j+2=>cases a
theorem Kg (e:bb) (i:Nat) (p:aY): (e.set i p).g=e.g:=by unfold bb.set;split <;> rfl
theorem WW (e:bb) (i:Nat) (p:aY): (e.set i p).br=e.br:=by unfold bb.set;split <;> rfl
theorem lE (e:bb) (h:e.br≤4):e.pl.length=e.br:=by simp[bb.pl];omega
theorem wc (e:bb) (h:e.br≤4) {i:Nat} (hi:i<e.br):e.pl[i]? = some (e.at_ i):=by
 unfold bb.pl;rw[iD,aw hi];match i,(show i<4 by omega) with
 | 0,_=>rfl
 | 1,_=>rfl
 | 2,_=>rfl
 | 3,_=>rfl
theorem WX (e:bb) (h:1≤e.br∧e.br≤4):hA e.abs=e.at_ (e.br - 1):=by
 unfold hA;rw[List.getLastD_eq_getLast?,List.getLast?_eq_getElem?];show (e.pl[e.pl.length - 1]?).getD _=_
 rw[lE e h.2,wc e h.2 aa];rfl
theorem we (e:bb) (h:1≤e.br∧e.br≤4):mr e.abs=e.b_:=by
 unfold mr;rw[List.headD_eq_head?_getD,List.head?_eq_getElem?];show (e.pl[0]?).getD _=_
 rw[wc e h.2 aa];rfl
theorem WY (e:bb) (p:aY) (h:e.br<4): ({ e.set e.br p with br:=e.br+1 }:bb).abs= { e.abs with pl:=e.pl++[p] }:=by
 obtain⟨g,code,has,cut,dir,line,id,b_,dP,gk,m8,br⟩:=e;match br,(show br<4 from h) with
 | 0,_=>rfl
 | 1,_=>rfl
 | 2,_=>rfl
 | 3,_=>rfl
theorem WZ (e:er) (k:Nat) (p:aY) (h:e.pl.length≤k):gM e (k+1) p= { gM e k p with pl:=(gM e k p).pl++[p] }:=by
 unfold gM;rw[show k+1 - e.pl.length=(k - e.pl.length)+1 by omega,List.replicate_succ',ea]
theorem C0 (e:er) (k:Nat) (p:aY) (h:k≤e.pl.length):gM e k p=e:=by
 unfold gM;rw[show k - e.pl.length=0 by omega];simp
def jT:bA Nat:=⟨λg=>[ptr g],1,λ_=>rfl,λ_=>aI.cons rfl aI.nil⟩
structure cO where
 g:Nat
 A:Option Addr
 c:Nat
 l:List bb
 most:Int
 ids:Int
 dir:List UInt8
abbrev rR (s:cO):List Value:=[.slice s.A s.l.length s.c,.int .i64 s.most,.int .u64 s.ids,.string (bs s.dir)]
abbrev cO.an (s:cO):Chunk:=aD s.g (rR s) 164
abbrev et (A:Option Addr) (c:Nat) (l:List bb):Chunk:=gL 188 jT.sz A l.length c (jT.all (l.map bb.g))
abbrev eW (l:List bb):Chunk:=aR (l.map bb.an)
abbrev cV (s:cO):List Chunk:=[s.an,et s.A s.c s.l,eW s.l]
def cO.abs (s:cO):e8:=⟨s.l.map bb.abs,s.most,s.ids,s.dir⟩
abbrev gv (l:List bb):Prop:= ∀e∈l,1≤e.br∧e.br≤4
structure fP (s:cO) (N:Int):Prop where
 wf:iY s.abs N
 br:gv s.l
theorem fP.len {s:cO} {N:Int} (h:fP s N): (s.l.length:Int)≤s.most∧1≤s.most∧s.most≤10000:=by
 have a:=h.wf.len
 have b:=h.wf.most
 simp only[cO.abs,cB] at a b
 omega
theorem od {w:World} {c:Nat} {l:List bb} {g o:Nat} (h: (et (some ⟨g,o,none⟩) c l).pred w) {k:Nat} {e:bb} (b:l[k]? = some e):w.cell? ((⟨g,o,none⟩ :Addr).add (k*1))=some (ptr e.g):=by
 have:=WI (E:=jT) h av rfl (k:=k) (a:=e.g) (by rw[eD,b];rfl) 0 (ptr e.g) rfl
 rw[Addr.add_lit,Addr.add_lit,Nat.add_zero] at this
 rw[Addr.add_lit];exact this
theorem mu {w:World} {l:List bb} (h: (eW l).pred w) {e:bb} (a:e∈l):e.an.pred w:=h e.an (dH.2 ⟨e,a,rfl⟩)
theorem wg (w:World) (a b:Int):Calls prog 131 [.pointer none,.int .i64 a,.int .i64 b].toArray w (Pure (.bool false) w):=by
 refine aV func131 ntmps131 ?_;refine xt ?_;intro d c;exact⟨rfl,c.ext⟩
theorem C1 (w:World) (p:aY):Calls prog 87 [d_ p].toArray w (Pure (.bool (decide (dk p))) w):=by
 refine aV func87 ntmps87 ?_;refine ah ?_;intro h i j;refine aJ ?_;refine aW 6 rfl (λb=>?_) (λb=>?_);have e:=aX b
 refine aK ?_;refine aW 11 rfl (λaH=>?_) (λaH=>?_);have f:=aX aH
 refine aK ?_;refine aW 16 rfl (λc=>?_) (λc=>?_);have g:=aX c
 refine bx ?_;intro d a;exact⟨by rw[Ending.returned.injEq,Value.bool.injEq];symm;simp only[dO,dk] at *;(rw[gQ];omega),a.ext⟩;have g:=bd c
 refine aJ ?_;intro d a;exact⟨by rw[Ending.returned.injEq,Value.bool.injEq];symm;simp only[dO,dk] at *;(rw[e2];omega),a.ext⟩;have f:=bd aH
 refine b7 ?_;intro d a;exact⟨by rw[Ending.returned.injEq,Value.bool.injEq];symm;simp only[dO,dk] at *;(rw[e2];omega),a.ext⟩;have e:=bd b
 refine eL ?_;intro d a;exact⟨by rw[Ending.returned.injEq,Value.bool.injEq];symm;simp only[dO,dk] at *;(rw[e2];omega),a.ext⟩
theorem W0 (w:World) (n:Int) (h:1≤n∧n≤10000):Calls prog 40 [.int .i64 n].toArray w
 (aP (λg:Nat=> .tuple #[ptr g,.int .i64 0]) [] (λg=>cV ⟨g,none,0,[],n,0,[]⟩) (λ_=>True) w):=by
 refine aV func40 ntmps40 ?_;refine bx ?_;refine aW 6 rfl (λa=>?_) (λa=>?_);have e:=aX a
 refine cF ?_;intro d b
 (exfalso;omega)
 have e:=bd a
 refine aC ?_;refine aj (λaH=>?_) (λaH=>?_);refine aJ ?_;intro d b
 (exfalso;omega)
 refine aC ?_;intro f j k;refine al ?_;intro d b;exact aP.bQ f a1 rfl ((((b.nj (c:=eW []) (λc i=>by simp at i) rfl).nj (c:=et none 0 []) (WG _ _ _) rfl)).ax ae)
theorem Kh (w:World) (e:bb) (c:e.an.pred w) (ai:1≤e.br∧e.br≤4):Calls prog 82 [ptr e.g].toArray w (Pure (d_ (hA e.abs)) w):=by
 rw[WX e ai];refine aV func82 ntmps82 ?_;refine ah ?_;intro k l m;refine ah ?_;refine bF [0,1,2,3,4,5,6,7,8,9] 1 [[(10,true,[])]] ?_;refine aS ?_;refine aL rfl (λd a=>(a_ bN rfl rfl (λf b=>by subst b;exact a.bU c (by (simp;done)) rfl) aG)) ?_;refine ah ?_;refine aL rfl (λd a=>(ds (q:=e.br - 1) underlying192 mL rfl rfl rfl aa aa aG)) ?_;refine aL rfl (λd a=>(cx (vs:=(e.at_ (e.br - 1)).enc) eg rfl rfl rfl (λf b j u h=>by subst b;rw[Addr.add_lit];exact a.bU c av (CZ e (e.br - 1) aa j u h)) aG)) ?_;refine aJ ?_;intro n i;exact⟨rfl,i.ext⟩
theorem wh (w:World) (e:bb) (h:e.an.pred w) (a b:Int):Calls prog 131 [ptr e.g,.int .i64 a,.int .i64 b].toArray w (Pure (.bool (decide (a≤(e.br:Int)∧(e.br:Int)≤b))) w):=by
 refine aV func131 ntmps131 ?_;refine ey ?_;refine a_ bN rfl rfl (λi c=>c.bU h (by (simp;done)) rfl) ?_;refine al ?_;refine aW 17 rfl (λd=>?_) (λd=>?_);have j:=aX d
 refine aC ?_;refine a_ bN rfl rfl (λi c=>c.bU h (by (simp;done)) rfl) ?_;refine aQ ?_;intro k f;exact⟨by rw[Ending.returned.injEq,Value.bool.injEq];symm;(rw[gQ];omega),f.ext⟩;have j:=bd d
 refine bx ?_;intro k f;exact⟨by rw[Ending.returned.injEq,Value.bool.injEq];symm;(rw[e2];omega),f.ext⟩
theorem y0 (w:World) (e:bb) (b:e.an.pred w) (ai:e.br≤4):Calls prog 84 [ptr e.g].toArray w (Pure (.slice (some ⟨e.g,6,none⟩) e.br 4) w):=by
 refine aV func84 ntmps84 ?_;refine al ?_;refine bF [0,1,2,3,4,5,6,7,8] 0 [[]] ?_;refine al ?_;refine aL rfl (λc a=>(a_ bN rfl rfl (λh d=>by subst d;exact a.bU b (by (simp;done)) rfl) aG)) ?_;refine aL rfl (λc a=>(J_ (sz:=2) e.br underlying192 sizeOf35 rfl rfl (.inl ⟨_,_,rfl,rfl,rfl⟩) ai aG)) ?_;refine al ?_;intro i f;exact⟨rfl,f.ext⟩
theorem W1 (w:World) (s:cO) (a:s.an.pred w):Calls prog 79 [ptr s.g].toArray w (Pure (.int .i64 (s.l.length:Int)) w):=by
 refine aV func79 ntmps79 ?_;refine hq ?_;refine a_ mK rfl rfl (λd b=>b.bU a (by (simp;done)) rfl) ?_;refine al ?_;intro e c;exact⟨rfl,c.ext⟩
theorem C2 (w:World) (s:cO) (f:s.an.pred w) (ai: (et s.A s.c s.l).pred w):Calls prog 81 [ptr s.g].toArray w (Pure (match s.l.getLast? with | some e=>ptr e.g | none=> .pointer none) w):=by
 have m:=yV ai
 have t:=m.2.1
 simp only[maxLen] at t
 refine aV func81 ntmps81 ?_;rcases gw s.l.length with h | h
 have u:s.l=[]:=iC h
 refine bp ?_;refine a_ mK rfl rfl (λv i=>i.bU f (by (simp;done)) rfl) ?_;refine aS ?_;refine aj (λb=>?_) (λb=>?_);refine aK ?_;intro x j;exact⟨by rw[u];rfl,j.ext⟩;exact absurd (show (s.l.length:Int)=0 by omega) b;obtain⟨y,o,n⟩:=m.2.2 h;obtain⟨e,p⟩ : ∃e,s.l[s.l.length - 1]? = some e:=⟨_,bE aa⟩;rw[n] at ai
 rw[List.getLast?_eq_getElem?,p];refine bp ?_;refine a_ mK rfl rfl (λv i=>i.bU f (by (simp;done)) rfl) ?_;refine aS ?_;refine aj (λb=>?_) (λb=>?_);exact absurd b aa;refine ah ?_;refine bF [0,1,2,3,4,5,6,7,8,9,10,11,12] 0 [[]] ?_;refine ah ?_;refine aL rfl (λk a=>(a_ mK rfl rfl (λr d=>by subst d;exact a.bU f (by (simp;done)) rfl) aG)) ?_;refine ah ?_;refine aL rfl (λk a=>(a_ mK rfl rfl (λr d=>by subst d;exact a.bU f (by (simp;done)) rfl) aG)) ?_;refine aq ?_;refine aL rfl (λk a=>(bC (q:=s.l.length - 1) k7 rfl rfl rfl n aa aa aG)) ?_;refine aL rfl (λk a=>(a_ np rfl rfl (λr d=>by subst d;exact a.cu (od ai p) av) aG)) ?_;refine al ?_;intro x j;exact⟨rfl,j.ext⟩
section
theorem W2 (l:List Nat) (a:Nat):jT.all (l++[a])=jT.all l++[ptr a]:=bA.hn jT l a
theorem Ki (w:World) (e:bb) (k:a8 w [e.an]) (n:Nat) (x:n≤4) (ai:e.br≤4) (p:aY):Calls prog 132 [ptr e.g,.int .i64 (n:Int),d_ p].toArray w
 (aP (λ_:bb=> .tuple #[]) [e.an] (λz=>[z.an]) (λz=>z.g=e.g∧z.abs=gM e.abs n p∧z.br≤4∧(z.br=n∨z.br=e.br∧n<e.br)) w):=by
 refine bI func132 ntmps132 k ?_;refine ah ?_;intro c A B;refine ah ?_;refine b2 (ι:=bb) (λz=>[(0,ptr z.g),(1,.int .i64 (n:Int)),(5,ptr c)]) (λz=>af w (aB [e.an]) [aD c p.enc 35,z.an]) (λz=>z.g=e.g∧z.abs=gM e.abs z.br p∧e.br≤z.br∧z.br≤4∧(z.br≤n∨z.br=e.br)) (λz=>4 - z.br) ?_ ?_;exact λw' l=>⟨e,⟨rfl,(C0 _ _ _ (by rw[show e.abs.pl=e.pl from rfl,lE e ai];exact bW _)).symm,bW _,ai,.inr rfl⟩,(em rfl rfl rfl),l⟩
 rintro z ⟨d,b,m,r,s⟩;refine bp ?_;refine aj (λt=>?_) (λt=>?_);have f:z.br<4:=by omega
 have i: ({ z.set z.br p with br:=z.br+1 }:bb).abs=gM e.abs (z.br+1) p:=by
  rw[WY z p f,WZ _ _ _ (by rw[show e.abs.pl=e.pl from rfl,lE e ai];exact m),←b];rfl
 refine aS ?_;refine bF [0,1,2,3,4,5,6,7,8] 1 [[(9,true,[])]] ?_;refine aK ?_;refine aL rfl (λC D=>(ds (q:=z.br) underlying192 mL rfl rfl rfl rfl aa aG)) ?_;refine aq ?_;refine e3 (g:=z.g) (o:=6+z.br*2) (vs:=p.enc) (xs:=kX z) (te:=194) eg rfl rfl (by rw[Kf _ _ _ f];exact ew) rfl (xm rfl rfl) (by show 6+z.br*2+2≤15;omega) ?_;refine aq ?_;obtain⟨y,a⟩ : ∃y,y=z.set z.br p:=⟨_,rfl⟩;have j:y.g=z.g:=by rw[a];exact Kg _ _ _
 have u:y.br=z.br:=by rw[a];exact WW _ _ _
 rw[←a] at i
 rw[←a,←j];refine bH ?_;refine bi ({ y with br:=z.br+1 }:bb) ⟨j.trans d,i,by dsimp only;omega,by dsimp only;omega,.inl bm⟩ bm (em rfl rfl rfl) (λ_ h=>?_);rw[u] at h
 exact h.ax ae;refine ay ?_;intro E v;refine aN z ⟨d,?_,r,aa⟩ v;rcases s with h | h
 rw[b,show z.br=n by omega];rw[b,h,C0 _ n _ (by rw[show e.abs.pl=e.pl from rfl,lE e ai];omega),C0 _ _ _ (by rw[show e.abs.pl=e.pl from rfl,lE e ai];exact bW _)]
theorem W3 (A:Option Addr) (c:Nat) (l:List bb) (z:bb):gL 188 jT.sz A (l.length+1) c (jT.all (l.map bb.g)++[ptr z.g])=et A c (l++[z]):=by
 show _=gL 188 jT.sz A (l++[z]).length c (jT.all ((l++[z]).map bb.g))
 rw[b6,fQ];exact aU _ (W2 _ _).symm
theorem Kj {A:Option Addr} {c:Nat} {l:List bb} {w:World} (a:1≤l.length) (h: (et A c l).pred w): (et (A.map (·.add (1*1))) (c - 1) l.tail).pred w:=by
 have b:=WJ a h
 cases l with
 | nil=>simp at a
 | cons x l=>exact b
theorem af.Kk {b w:World} {S:List Nat} {cs:List Chunk} {l:List bb} {z:bb} (h:af b S (z.an::eW l::cs) w):af b S (eW (l++[z])::cs) w:=by
 have a:af b S (aR [z.an]::eW l::cs) w:=h.close (l:=[z.an]) ae
 show af b S (aR ((l++[z]).map bb.an)::cs) w
 rw[fQ];exact (a.perm (List.Perm.swap _ _ _)).A7
theorem af.W4 {b w:World} {S:List Nat} {cs:List Chunk} {l:List bb} (h:af b S (eW l::cs) w):af b S (eW l.tail::cs) w:=by
 cases l with
 | nil=>exact h
 | cons x l=>exact h.QD (r:=[x.an]) (List.Perm.refl _)
abbrev C3 (g:Nat) (dir:List UInt8) (id:Int):bb:=⟨g,0,false,false,dir,[],id,⟨0,0⟩,⟨0,0⟩,⟨0,0⟩,⟨0,0⟩,0⟩
theorem Kl {l:List bb} {z:bb} (h:gv l) (a:1≤z.br∧z.br≤4):gv (l++[z]):=λe he=>by
 rcases cZ.1 he with he | he
 exact h e he;rw[eb] at he;exact he▸a
section
variable {g:Nat} {A dG:Option Addr} {c c9:Nat} {l:List bb} {most ids N:Int} {dir:List UInt8} {n:Nat} {p:aY} {z:bb}
theorem Km (a:z.abs=⟨0,false,false,dir,[],ids+1,List.replicate n p⟩):gN (cO.abs ⟨g,A,c,l,most,ids,dir⟩) n p=⟨if most<(l.length:Int)+1 then (l++[z]).tail.map bb.abs else (l++[z]).map bb.abs,most,ids+1,dir⟩:=by
 unfold gN cO.abs;dsimp only;rw[←a,b6,cB,jY,List.map_tail,fQ];rfl
theorem W5 (a:iY (gN (cO.abs ⟨g,A,c,l,most,ids,dir⟩) n p) (N+1)) (b:gv (l++[z])) (d:z.abs=⟨0,false,false,dir,[],ids+1,List.replicate n p⟩) (h: ¬most<(l.length:Int)+1):
 (⟨g,dG,c9,l++[z],most,ids+1,dir⟩ :cO).g=g∧fP ⟨g,dG,c9,l++[z],most,ids+1,dir⟩ (N+1)∧(⟨g,dG,c9,l++[z],most,ids+1,dir⟩ :cO).abs=gN (cO.abs ⟨g,A,c,l,most,ids,dir⟩) n p:=by
 have e:=Km (g:=g) (A:=A) (c:=c) (l:=l) (most:=most) d
 rw[ag h] at e
 rw[e] at a ⊢
 exact⟨rfl,⟨a,b⟩,rfl⟩
theorem W6 (a:iY (gN (cO.abs ⟨g,A,c,l,most,ids,dir⟩) n p) (N+1)) (b:gv (l++[z])) (d:z.abs=⟨0,false,false,dir,[],ids+1,List.replicate n p⟩) (h:most<(l.length:Int)+1):
 (⟨g,dG,c9,(l++[z]).tail,most,ids+1,dir⟩ :cO).g=g∧fP ⟨g,dG,c9,(l++[z]).tail,most,ids+1,dir⟩ (N+1)∧(⟨g,dG,c9,(l++[z]).tail,most,ids+1,dir⟩ :cO).abs=gN (cO.abs ⟨g,A,c,l,most,ids,dir⟩) n p:=by
 have e:=Km (g:=g) (A:=A) (c:=c) (l:=l) (most:=most) d
 rw[aw h] at e
 rw[e] at a ⊢
 exact⟨rfl,⟨a,λx f=>b x (List.mem_of_mem_tail f)⟩,rfl⟩
theorem W7 {b w:World} {S:List Nat} (h:af b S [z.an,eW l,aD g [.slice dG (l.length+1) c9,.int .i64 most,.int .u64 ids,.string (bs dir)] 164,et dG c9 (l++[z])] w):af b S (cV ⟨g,dG,c9,l++[z],most,ids,dir⟩) w:=by
 have a: (l++[z]).length=l.length+1:=by simp
 simp only[cV,cO.an,rR,a];exact h.Kk.ax ae
theorem W8 {b w:World} {S:List Nat} (h:af b S [z.an,eW l,aD g [.slice dG (l.length+1 - 1) c9,.int .i64 most,.int .u64 ids,.string (bs dir)] 164,et dG c9 (l++[z]).tail] w):af b S (cV ⟨g,dG,c9,(l++[z]).tail,most,ids,dir⟩) w:=by
 have a: (l++[z]).tail.length=l.length+1 - 1:=by simp
 simp only[cV,cO.an,rR,a];exact h.Kk.W4.ax ae
end
theorem W9 (w:World) (s:cO) (t:a8 w (cV s)) {N:Int} (a:fP s N) (H:N≤1000000000000000) (n:Nat) (j:1≤n∧n≤4) (p:aY) (ai:eq p):Calls prog 130 [ptr s.g,.int .i64 (n:Int),d_ p].toArray w
 (aP (λ_:cO=> .tuple #[]) (cV s) cV (λz=>z.g=s.g∧fP z (N+1)∧z.abs=gN s.abs n p) w):=by
 have u:=a.len
 have v:0≤s.ids∧s.ids≤N:=a.wf.ids
 have k:=yX a.wf j ai
 have d:=a.br
 obtain⟨g,A,c,l,most,ids,dir⟩:=s;dsimp only at u v d
 refine calls (n:=57) func130 rfl ntmps130 rfl ?_;refine cH (H':=af w (aB (cV ⟨g,A,c,l,most,ids,dir⟩)) [aD g [.slice A l.length c,.int .i64 most,.int .u64 ids,.string (bs dir)] 164,et A c l,eW l]) ?_ (Sub.refl _) t.start;refine ah ?_;intro I J K;refine aK ?_;refine hk (r:=ids+1) rfl rfl rfl (by simp[IntKind.wrap,IntKind.bits,IntKind.signed];omega) ?_;refine al ?_;refine bF [0,1,2,3,4,5,6,7,8,9] 1 [[(10,false,[11])]] ?_;refine aK ?_;refine aL rfl (λx y=>(ks (out:=[.int .i64 0,.bool false,.bool false,.string (bs dir),.string (bs [])]) My rfl rfl rfl aG)) ?_;refine aL rfl (λx y=>(ks (out:=kX (C3 0 dir (ids+1))) MA rfl rfl rfl aG)) ?_;refine ah ?_;intro b L M;refine b3 (λ_=>True) (λ_ h=> .inr (h.rem bw.head)) (λ_ h=>a1) ?_;refine aJ ?_;refine a6 (l0:=[(C3 b dir (ids+1)).an]) ae rfl w0 rfl (λB C=>Ki B (C3 b dir (ids+1)) (C.bo ae) n j.2 (bP _) p) (λz D=>?_);obtain⟨o,q,O,P⟩:=D;dsimp only at o
 refine bp ?_;intro Q R S;refine WO (m:=l.length) (A:=A) (c:=c) (vs:=[ptr b]) (xs:=jT.all (l.map bb.g)) k7 rfl rfl rfl aT rfl (aI.cons rfl aI.nil) (by simp only[maxLen];omega) aa (λ_ _=>jk) (λdG c9=>?_);refine CR (c:=gL 188 jT.sz dG (l.length+1) c9 (jT.all (l.map bb.g)++[ptr b])) (c':=et dG c9 (l++[z])) jk (by cases dG <;> rfl) (λw h=>by rw[←W3,o];exact h) ?_;refine WM (m:=(l++[z]).length) (A:=dG) (c:=c9) hM (λE=>?_);rw[b6,jY] at E
 refine al ?_;refine bF [0,1,2,3,4,5,6,7,8,9] 0 [[]] ?_;refine bH ?_;refine aj (λF=>?_) (λF=>?_);refine al ?_;refine fz 1 (l.length+1) k7 rfl rfl (.inl ⟨_,_,rfl,rfl,rfl⟩) (.inr ⟨rfl,rfl⟩) aa aa ?_;rw[ag aa];refine CR (c:=et dG c9 (l++[z])) (c':=et (dG.map (·.add (1*1))) (c9 - 1) (l++[z]).tail) jk (J7 _ _ _ _ _ _ _ _ _ _) (λw h=>Kj av h) ?_;refine ay ?_;intro G e;have f:z.abs=⟨0,false,false,dir,[],ids+1,List.replicate n p⟩:=by rw[q];rfl
 have i:gv (l++[z]):=Kl d aa
 exact aP.bQ ⟨g,dG.map (·.add (1*1)),c9 - 1,(l++[z]).tail,most,ids+1,dir⟩ (W6 k i f aa) rfl (W8 (e.ax ae));refine aq ?_;intro G e;have f:z.abs=⟨0,false,false,dir,[],ids+1,List.replicate n p⟩:=by rw[q];rfl
 have i:gv (l++[z]):=Kl d aa
 exact aP.bQ ⟨g,dG,c9,l++[z],most,ids+1,dir⟩ (W5 k i f aa) rfl (W7 (e.ax ae))
end
theorem W_ {l:List bb} {k:Nat} {e z:bb} (a:l[k]? = some e) (b:z.g=e.g): (l.set k z).map bb.g=l.map bb.g:=by
 rw[oo,b];apply mz
 intro i;rw[om];split
 rename_i h;subst h;rw[aw (by rw[cB];exact (cK.1 a).1),eD,a];rfl
 rfl
theorem Xa {A:Option Addr} {c:Nat} {l:List bb} {k:Nat} {e z:bb} (a:l[k]? = some e) (b:z.g=e.g):et A c (l.set k z)=et A c l:=by
 show gL _ _ _ (l.set k z).length _ (jT.all ((l.set k z).map bb.g))=_
 rw[W_ a b,gc]
theorem af.C4 {b w:World} {S:List Nat} {cs:List Chunk} {l:List bb} {k:Nat} {e z:bb} (h:af b S (z.an::aR ((l.map bb.an).eraseIdx k)::cs) w) (c:l[k]? = some e):af b S (eW (l.set k z)::cs) w:=by
 have a:=h.J8 (k:=k) (by rw[cB];exact (cK.1 c).1)
 rw[←oo] at a
 exact a
theorem C5 {l:List bb} {e:bb} (h:l.getLast?=some e):l[l.length - 1]? = some e∧1≤l.length:=by
 refine⟨by rw[←List.getLast?_eq_getElem?];exact h,?_⟩;cases l with
 | nil=>cases h
 | cons x l=>simp
theorem Xb {l:List bb} {e z:bb} {f:er→er} (h:l.getLast?=some e) (a:f e.abs=z.abs): (l.set (l.length - 1) z).map bb.abs=setLast (l.map bb.abs) f:=by
 have b: (l.map bb.abs).getLast?=some e.abs:=by rw[List.getLast?_map,h];rfl
 have c:=C5 h
 unfold setLast;rw[b];dsimp only;rw[a,oo,qN,aw (by rw[cB];omega),List.dropLast_eq_take,cB,ol (by rw[cB];omega)]
structure jy (s:cO) (N:Int) (x:lB) (p:aY) (z:cO):Prop where
 g:z.g=s.g
 ok:fP z (N+1)
 abs:z.abs=gu s.abs x p
theorem jy.of {s:cO} {N:Int} {x:lB} {p:aY} (b:fP s N) (c:x.text.length≤256) {z:cO} (d:z.g=s.g) (ai:gv z.l) (a:z.abs=gu s.abs x p):jy s N x p z:=⟨d,⟨a▸WT b.wf x c p,ai⟩,a⟩
theorem Xc {l:List bb} {k:Nat} {z:bb} (h:gv l) (b:1≤z.br∧z.br≤4):gv (l.set k z):=λe c=>by
 rcases r_ c with a | a
 exact h e a;exact a▸b
theorem Xd {s:cO} {e:bb} (f:s.l.getLast?=some e) (g:1≤e.br∧e.br≤4) (x:lB) {p:aY} (i:dk p):gu s.abs x p=
 if x.kind=1 then gN s.abs 1 (ix p (hA e.abs)) else
 if x.kind=2 then (if 1≤(e.br:Int)∧(e.br:Int)≤1 then jx s.abs (λc=>gM c 2 (ix p (hA e.abs))) else gN s.abs 2 (ix p (hA e.abs))) else
 if x.kind=3 then (if 1≤(e.br:Int)∧(e.br:Int)≤2 then jx s.abs (λc=>gM c 3 (ix p (hA e.abs))) else gN s.abs 3 (ix p (hA e.abs))) else
 if x.kind=4 then (if 1≤(e.br:Int)∧(e.br:Int)≤3 then jx s.abs (λc=>{ gM c 4 (ix p (hA e.abs)) with code:=x.code,has:=x.has }) else s.abs) else
 if x.kind=5 then (if 1≤(e.br:Int)∧(e.br:Int)≤3 then jx s.abs (λc=>{ c with line:=x.text }) else s.abs) else
 if x.kind=6 then (if 1≤(e.br:Int)∧(e.br:Int)≤2 then jx { s.abs with dir:=x.text } (λc=>{ c with dir:=x.text }) else { s.abs with dir:=x.text }) else s.abs:=by
 have d:s.abs.blocks.getLast?=some e.abs:=by show (s.l.map bb.abs).getLast?=_;rw[List.getLast?_map,f];rfl
 have j:lC s.abs p=ix p (hA e.abs):=by unfold lC;rw[d]
 have k: ∀(t:e8) (a b:Nat),t.blocks=s.abs.blocks→(pu t a b=true)=((a:Int)≤(e.br:Int)∧(e.br:Int)≤(b:Int)):=λt a b m=>by
  unfold pu;rw[m,d];have n:e.abs.pl.length=e.br:=lE e g.2
  dsimp only;rw[n,d4,e9,e9];exact propext ⟨λh=>⟨aa,aa⟩,λh=>⟨aa,aa⟩⟩
 unfold gu;rw[ag (Classical.not_not.2 i),j];simp only[k _ _ _ rfl];rfl
theorem Xe {s:cO} (d:s.l.getLast?=none) (x:lB) {p:aY} (e:dk p):gu s.abs x p=
 if x.kind=1 then gN s.abs 1 p else
 if x.kind=2 then gN s.abs 2 p else
 if x.kind=3 then gN s.abs 3 p else
 if x.kind=6 then { s.abs with dir:=x.text } else s.abs:=by
 have c:s.abs.blocks.getLast?=none:=by show (s.l.map bb.abs).getLast?=_;rw[List.getLast?_map,d];rfl
 have f:lC s.abs p=p:=by unfold lC;rw[c]
 have g: ∀(t:e8) (a b:Nat),t.blocks=s.abs.blocks→pu t a b=false:=λt a b i=>by unfold pu;rw[i,c]
 unfold gu;rw[ag (Classical.not_not.2 e),f];simp only[g _ _ _ rfl,Bool.false_eq_true,if_false];split
 rfl
 split
 rfl
 split
 rfl
 split
 rename_i h;rw[ag aa]
 split
 rename_i h;rw[ag aa]
 rfl
theorem C6 (w:World) (e:bb) (a:a8 w [e.an]) (n:Int) (k:Nat) (b:n=(k:Int)) (c:k≤4) (ai:e.br≤4) (p:aY):Calls prog 132 [ptr e.g,.int .i64 n,d_ p].toArray w
 (aP (λ_:bb=> .tuple #[]) [e.an] (λz=>[z.an]) (λz=>z.g=e.g∧z.abs=gM e.abs k p∧z.br≤4∧(z.br=k∨z.br=e.br∧k<e.br)) w):=by subst b;exact Ki w e a k c ai p
theorem tZ (w:World) (s:cO) (a:a8 w (cV s)) {N:Int} (b:fP s N) (c:N≤1000000000000000) (n:Int) (k:Nat) (d:n=(k:Int)) (e:1≤k∧k≤4) (p:aY) (ai:eq p):Calls prog 130 [ptr s.g,.int .i64 n,d_ p].toArray w
 (aP (λ_:cO=> .tuple #[]) (cV s) cV (λz=>z.g=s.g∧fP z (N+1)∧z.abs=gN s.abs k p) w):=by subst d;exact W9 w s a b c k e p ai
abbrev C7 (x:lB):Value:= .agg [.int .i64 x.kind,.int .i64 x.code,.bool x.has,.string (bs x.text)].toArray
def y1 (s:cO) (N:Int) (x:lB) (p:aY) (w:World):Ending→World→Prop:=aP (λ_:cO=> .tuple #[]) (cV s) cV (jy s N x p) w
theorem Xf (w:World) (s:cO) (A:a8 w (cV s)) {N:Int} (e:fP s N) (o:N≤1000000000000000) (x:lB) (i:x.text.length≤256) (p:aY) (r:s.l.getLast?=none):Calls prog 77 [ptr s.g,C7 x,d_ p].toArray w (y1 s N x p w):=by
 have j:=e.br
 refine bI func77 ntmps77 A ?_;refine ah ?_;intro G H I;refine ar ?_;intro J K L;refine bp ?_;refine ao rfl zS rfl (λa c=>C1 a p) ?_;refine ay ?_;refine b1 rfl (λk=>?_) (λk=>?_);have m: ¬dk p:=λh=>by rw[bX h] at k;exact absurd k aZ
 refine ah ?_;intro f b;exact aN s (jy.of e i rfl j (by unfold gu;rw[aw m])) b;have m:dk p:=Classical.byContradiction λh=>by rw[cg h] at k;exact absurd k aZ
 have ai:=yY m
 have n:=Xe r x m
 have B:x.kind=1→gN s.abs 1 p=gu s.abs x p:=λh=>by rw[n,aw h]
 have t:x.kind=2∨x.kind=3→gN s.abs x.kind.toNat p=gu s.abs x p:=λh=>by
  rcases h with h | h <;> rw[n,h] <;> rfl
 have C:x.kind=6→({ s with dir:=x.text }:cO).abs=gu s.abs x p:=λh=>by rw[n,h];rfl
 have q: ¬x.kind=1∧ ¬x.kind=2∧ ¬x.kind=3∧ ¬x.kind=6→s.abs=gu s.abs x p:=λh=>by rw[n,ag h.1,ag h.2.1,ag h.2.2.1,ag h.2.2.2]
 refine ay ?_;refine ao rfl zR rfl (λa c=>(by have h:=C2 a s (c.has cr) (c.has gD);rw[r] at h;exact h)) ?_;refine lV ?_;refine aj (λu=>?_) (λu=>?_);refine ah ?_;refine a6 (l0:=cV s) ae rfl sB rfl (λa c=>tZ a s (c.bo ae) e o _ 1 rfl aa p ai) (λz d=>?_);refine ah ?_;intro f b;exact aN z ⟨d.1,d.2.1,d.2.2.trans (B u)⟩ b;refine aC ?_;refine aj (λaH=>?_) (λaH=>?_);have v:=aH
 refine aq ?_;refine eE rfl ((bX v)) ?_;refine bx ?_;refine ao rfl nq rfl (λa c=>wg a _ _) ?_;refine aC ?_;refine a6 (l0:=cV s) ae rfl sB rfl (λa c=>tZ a s (c.bo ae) e o _ x.kind.toNat aa aa p ai) (λz d=>?_);refine ah ?_;intro f b;exact aN z ⟨d.1,d.2.1,d.2.2.trans (t aa)⟩ b;have v:=aH
 refine ay ?_;refine aj (λD=>?_) (λD=>?_);refine bx ?_;refine ao rfl nq rfl (λa c=>wg a _ _) ?_;refine aC ?_;refine a6 (l0:=cV s) ae rfl sB rfl (λa c=>tZ a s (c.bo ae) e o _ x.kind.toNat aa aa p ai) (λz d=>?_);refine ah ?_;intro f b;exact aN z ⟨d.1,d.2.1,d.2.2.trans (t aa)⟩ b;refine al ?_;refine aj (λE=>?_) (λE=>?_);refine ah ?_;refine ao rfl nq rfl (λa c=>wg a _ _) ?_;refine al ?_;intro f b;exact aN s (jy.of e i rfl j (q aa)) b;refine al ?_;refine aj (λF=>?_) (λF=>?_);refine ah ?_;refine ao rfl nq rfl (λa c=>wg a _ _) ?_;refine al ?_;intro f b;exact aN s (jy.of e i rfl j (q aa)) b;refine al ?_;refine aj (λy=>?_) (λy=>?_);refine bH ?_;refine ao rfl nq rfl (λa c=>wg a _ _) ?_;refine al ?_;intro f b;exact aN { s with dir:=x.text } (jy.of e i rfl j (C y)) b;refine ah ?_;intro f b;exact aN s (jy.of e i rfl j (q aa)) b
end Go.Proofs.YtlgnfdodnhokjaaGreatDoor.Mq
