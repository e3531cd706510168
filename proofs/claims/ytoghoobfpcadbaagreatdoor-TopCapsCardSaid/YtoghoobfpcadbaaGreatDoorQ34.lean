/- part 34 of the proof -/
import Derived.Test.YtoghoobfpcadbaaGreatDoorQ33
namespace Go.Proofs.YtoghoobfpcadbaaGreatDoor.Mq
open Go Go.RowKit Go.Proofs Tryz
section
theorem Ws (l:List Nat) (a:Nat):jP.all (l++[a])=jP.all l++[ptr a]:=bx.hk jP l a
theorem JE (w:World) (e:a_) (k:a8 w [e.an]) (n:Nat) (x:n≤4) (ai:e.br≤4) (p:bh):Calls prog 122 [ptr e.g,.int .i64 (n:Int),ee p].toArray w
 (aO (λ_:a_=> .tuple #[]) [e.an] (λz=>[z.an]) (λz=>z.g=e.g∧z.abs=gJ e.abs n p∧z.br≤4∧(z.br=n∨z.br=e.br∧n<e.br)) w):=by
 refine bC func122 ntmps122 k ?_;refine ah ?_;intro c A B;refine ah ?_;refine b1 (ι:=a_) (λz=>[(0,ptr z.g),(1,.int .i64 (n:Int)),(5,ptr c)]) (λz=>af w (aA [e.an]) [aE c p.enc 51,z.an]) (λz=>z.g=e.g∧z.abs=gJ e.abs z.br p∧e.br≤z.br∧z.br≤4∧(z.br≤n∨z.br=e.br)) (λz=>4 - z.br) ?_ ?_;exact λw' l=>⟨e,⟨rfl,(CM _ _ _ (by rw[show e.abs.pl=e.pl from rfl,lB e ai];exact ch _)).symm,ch _,ai,.inr rfl⟩,(ef rfl rfl rfl),l⟩
 rintro z ⟨d,b,m,r,s⟩;refine bp ?_;refine aj (λt=>?_) (λt=>?_);have f:z.br<4:=by omega
 have i: ({ z.set z.br p with br:=z.br+1 }:a_).abs=gJ e.abs (z.br+1) p:=by
  rw[Wo z p f,Wp _ _ _ (by rw[show e.abs.pl=e.pl from rfl,lB e ai];exact m),←b];rfl
 refine aS ?_;refine bF [0,1,2,3,4,5,6,7,8] 1 [[(9,true,[])]] ?_;refine aL ?_;refine aI rfl (λC D=>(dt (q:=z.br) underlying135 mA rfl rfl rfl rfl aa aC)) ?_;refine aq ?_;refine eW (g:=z.g) (o:=6+z.br*2) (vs:=p.enc) (xs:=kU z) (te:=137) dN rfl rfl (by rw[JB _ _ _ f];exact er) rfl (xb rfl rfl) (by show 6+z.br*2+2≤15;omega) ?_;refine aq ?_;obtain⟨y,a⟩ : ∃y,y=z.set z.br p:=⟨_,rfl⟩;have j:y.g=z.g:=by rw[a];exact JC _ _ _
 have u:y.br=z.br:=by rw[a];exact Wm _ _ _
 rw[←a] at i
 rw[←a,←j];refine bI ?_;refine bg ({ y with br:=z.br+1 }:a_) ⟨j.trans d,i,by dsimp only;omega,by dsimp only;omega,.inl bm⟩ bm (ef rfl rfl rfl) (λ_ h=>?_);rw[u] at h
 exact h.aw ae;refine ax ?_;intro E v;refine aN z ⟨d,?_,r,aa⟩ v;rcases s with h | h
 rw[b,show z.br=n by omega];rw[b,h,CM _ n _ (by rw[show e.abs.pl=e.pl from rfl,lB e ai];omega),CM _ _ _ (by rw[show e.abs.pl=e.pl from rfl,lB e ai];exact ch _)]
theorem Wt (A:Option Addr) (c:Nat) (l:List a_) (z:a_):gH 131 jP.sz A (l.length+1) c (jP.all (l.map a_.g)++[ptr z.g])=eo A c (l++[z]):=by
 show _=gH 131 jP.sz A (l++[z]).length c (jP.all ((l++[z]).map a_.g))
 rw[b8,gf];exact aV _ (Ws _ _).symm
theorem JF {A:Option Addr} {c:Nat} {l:List a_} {w:World} (a:1≤l.length) (h: (eo A c l).pred w): (eo (A.map (·.add (1*1))) (c - 1) l.tail).pred w:=by
 have b:=V9 a h
 cases l with
 | nil=>simp at a
 | cons x l=>exact b
theorem af.JG {b w:World} {S:List Nat} {cs:List Chunk} {l:List a_} {z:a_} (h:af b S (z.an::eQ l::cs) w):af b S (eQ (l++[z])::cs) w:=by
 have a:af b S (aU [z.an]::eQ l::cs) w:=h.close (l:=[z.an]) ae
 show af b S (aU ((l++[z]).map a_.an)::cs) w
 rw[gf];exact (a.perm (List.Perm.swap _ _ _)).AS
theorem af.Wu {b w:World} {S:List Nat} {cs:List Chunk} {l:List a_} (h:af b S (eQ l::cs) w):af b S (eQ l.tail::cs) w:=by
 cases l with
 | nil=>exact h
 | cons x l=>exact h.PX (r:=[x.an]) (List.Perm.refl _)
abbrev CP (g:Nat) (dir:List UInt8) (id:Int):a_:=⟨g,0,false,false,dir,[],id,⟨0,0⟩,⟨0,0⟩,⟨0,0⟩,⟨0,0⟩,0⟩
theorem JH {l:List a_} {z:a_} (h:gt l) (a:1≤z.br∧z.br≤4):gt (l++[z]):=λe he=>by
 rcases db.1 he with he | he
 exact h e he;rw[ey] at he;exact he▸a
section
variable {g:Nat} {A dF:Option Addr} {c c9:Nat} {l:List a_} {most ids N:Int} {dir:List UInt8} {n:Nat} {p:bh} {z:a_}
theorem JI (a:z.abs=⟨0,false,false,dir,[],ids+1,List.replicate n p⟩):fP (cK.abs ⟨g,A,c,l,most,ids,dir⟩) n p=⟨if most<(l.length:Int)+1 then (l++[z]).tail.map a_.abs else (l++[z]).map a_.abs,most,ids+1,dir⟩:=by
 unfold fP cK.abs;dsimp only;rw[←a,b8,cT,iC,List.map_tail,gf];rfl
theorem Wv (a:hA (fP (cK.abs ⟨g,A,c,l,most,ids,dir⟩) n p) (N+1)) (b:gt (l++[z])) (d:z.abs=⟨0,false,false,dir,[],ids+1,List.replicate n p⟩) (h: ¬most<(l.length:Int)+1):
 (⟨g,dF,c9,l++[z],most,ids+1,dir⟩ :cK).g=g∧fJ ⟨g,dF,c9,l++[z],most,ids+1,dir⟩ (N+1)∧(⟨g,dF,c9,l++[z],most,ids+1,dir⟩ :cK).abs=fP (cK.abs ⟨g,A,c,l,most,ids,dir⟩) n p:=by
 have e:=JI (g:=g) (A:=A) (c:=c) (l:=l) (most:=most) d
 rw[ag h] at e
 rw[e] at a ⊢
 exact⟨rfl,⟨a,b⟩,rfl⟩
theorem Ww (a:hA (fP (cK.abs ⟨g,A,c,l,most,ids,dir⟩) n p) (N+1)) (b:gt (l++[z])) (d:z.abs=⟨0,false,false,dir,[],ids+1,List.replicate n p⟩) (h:most<(l.length:Int)+1):
 (⟨g,dF,c9,(l++[z]).tail,most,ids+1,dir⟩ :cK).g=g∧fJ ⟨g,dF,c9,(l++[z]).tail,most,ids+1,dir⟩ (N+1)∧(⟨g,dF,c9,(l++[z]).tail,most,ids+1,dir⟩ :cK).abs=fP (cK.abs ⟨g,A,c,l,most,ids,dir⟩) n p:=by
 have e:=JI (g:=g) (A:=A) (c:=c) (l:=l) (most:=most) d
 rw[ay h] at e
 rw[e] at a ⊢
 exact⟨rfl,⟨a,λx f=>b x (List.mem_of_mem_tail f)⟩,rfl⟩
theorem Wx {b w:World} {S:List Nat} (h:af b S [z.an,eQ l,aE g [.slice dF (l.length+1) c9,.int .i64 most,.int .u64 ids,.string (bs dir)] 140,eo dF c9 (l++[z])] w):af b S (cX ⟨g,dF,c9,l++[z],most,ids,dir⟩) w:=by
 have a: (l++[z]).length=l.length+1:=by simp
 simp only[cX,cK.an,rE,a];exact h.JG.aw ae
theorem Wy {b w:World} {S:List Nat} (h:af b S [z.an,eQ l,aE g [.slice dF (l.length+1 - 1) c9,.int .i64 most,.int .u64 ids,.string (bs dir)] 140,eo dF c9 (l++[z]).tail] w):af b S (cX ⟨g,dF,c9,(l++[z]).tail,most,ids,dir⟩) w:=by
 have a: (l++[z]).tail.length=l.length+1 - 1:=by simp
 simp only[cX,cK.an,rE,a];exact h.JG.Wu.aw ae
end
theorem Wz (w:World) (s:cK) (t:a8 w (cX s)) {N:Int} (a:fJ s N) (H:N≤1000000000000000) (n:Nat) (j:1≤n∧n≤4) (p:bh) (ai:em p):Calls prog 120 [ptr s.g,.int .i64 (n:Int),ee p].toArray w
 (aO (λ_:cK=> .tuple #[]) (cX s) cX (λz=>z.g=s.g∧fJ z (N+1)∧z.abs=fP s.abs n p) w):=by
 have u:=a.len
 have v:0≤s.ids∧s.ids≤N:=a.wf.ids
 have k:=yL a.wf j ai
 have d:=a.br
 obtain⟨g,A,c,l,most,ids,dir⟩:=s;dsimp only at u v d
 refine calls (n:=57) func120 rfl ntmps120 rfl ?_;refine cL (H':=af w (aA (cX ⟨g,A,c,l,most,ids,dir⟩)) [aE g [.slice A l.length c,.int .i64 most,.int .u64 ids,.string (bs dir)] 140,eo A c l,eQ l]) ?_ (Sub.refl _) t.start;refine ah ?_;intro I J K;refine aL ?_;refine gu (r:=ids+1) rfl rfl rfl (by simp[IntKind.wrap,IntKind.bits,IntKind.signed];omega) ?_;refine al ?_;refine bF [0,1,2,3,4,5,6,7,8,9] 1 [[(10,false,[11])]] ?_;refine aL ?_;refine aI rfl (λx y=>(ko (out:=[.int .i64 0,.bool false,.bool false,.string (bs dir),.string (bs [])]) LW rfl rfl rfl aC)) ?_;refine aI rfl (λx y=>(ko (out:=kU (CP 0 dir (ids+1))) LY rfl rfl rfl aC)) ?_;refine ah ?_;intro b L M;refine bV (λ_=>True) (λ_ h=> .inr (h.rem bv.head)) (λ_ h=>aT) ?_;refine aJ ?_;refine aY (l0:=[(CP b dir (ids+1)).an]) ae rfl wP rfl (λB C=>JE B (CP b dir (ids+1)) (C.bo ae) n j.2 (bP _) p) (λz D=>?_);obtain⟨o,q,O,P⟩:=D;dsimp only at o
 refine bp ?_;intro Q R S;refine Wd (m:=l.length) (A:=A) (c:=c) (vs:=[ptr b]) (xs:=jP.all (l.map a_.g)) k7 rfl rfl rfl aQ rfl (aH.cons rfl aH.nil) (by simp only[maxLen];omega) aa (λ_ _=>jf) (λdF c9=>?_);refine CC (c:=gH 131 jP.sz dF (l.length+1) c9 (jP.all (l.map a_.g)++[ptr b])) (c':=eo dF c9 (l++[z])) jf (by cases dF <;> rfl) (λw h=>by rw[←Wt,o];exact h) ?_;refine Wb (m:=(l++[z]).length) (A:=dF) (c:=c9) hp (λE=>?_);rw[b8,iC] at E
 refine al ?_;refine bF [0,1,2,3,4,5,6,7,8,9] 0 [[]] ?_;refine bI ?_;refine aj (λF=>?_) (λF=>?_);refine al ?_;refine ft 1 (l.length+1) k7 rfl rfl (.inl ⟨_,_,rfl,rfl,rfl⟩) (.inr ⟨rfl,rfl⟩) aa aa ?_;rw[ag aa];refine CC (c:=eo dF c9 (l++[z])) (c':=eo (dF.map (·.add (1*1))) (c9 - 1) (l++[z]).tail) jf (Jt _ _ _ _ _ _ _ _ _ _) (λw h=>JF av h) ?_;refine ax ?_;intro G e;have f:z.abs=⟨0,false,false,dir,[],ids+1,List.replicate n p⟩:=by rw[q];rfl
 have i:gt (l++[z]):=JH d aa
 exact aO.bQ ⟨g,dF.map (·.add (1*1)),c9 - 1,(l++[z]).tail,most,ids+1,dir⟩ (Ww k i f aa) rfl (Wy (e.aw ae));refine aq ?_;intro G e;have f:z.abs=⟨0,false,false,dir,[],ids+1,List.replicate n p⟩:=by rw[q];rfl
 have i:gt (l++[z]):=JH d aa
 exact aO.bQ ⟨g,dF,c9,l++[z],most,ids+1,dir⟩ (Wv k i f aa) rfl (Wx (e.aw ae))
end
theorem WA {l:List a_} {k:Nat} {e z:a_} (a:l[k]? = some e) (b:z.g=e.g): (l.set k z).map a_.g=l.map a_.g:=by
 rw[ob,b];apply ms
 intro i;rw[oa];split
 rename_i h;subst h;rw[ay (by rw[cT];exact (cY.1 a).1),eJ,a];rfl
 rfl
theorem WB {A:Option Addr} {c:Nat} {l:List a_} {k:Nat} {e z:a_} (a:l[k]? = some e) (b:z.g=e.g):eo A c (l.set k z)=eo A c l:=by
 show gH _ _ _ (l.set k z).length _ (jP.all ((l.set k z).map a_.g))=_
 rw[WA a b,fL]
theorem af.CQ {b w:World} {S:List Nat} {cs:List Chunk} {l:List a_} {k:Nat} {e z:a_} (h:af b S (z.an::aU ((l.map a_.an).eraseIdx k)::cs) w) (c:l[k]? = some e):af b S (eQ (l.set k z)::cs) w:=by
 have a:=h.Ju (k:=k) (by rw[cT];exact (cY.1 c).1)
 rw[←ob] at a
 exact a
theorem CR {l:List a_} {e:a_} (h:l.getLast?=some e):l[l.length - 1]? = some e∧1≤l.length:=by
 refine⟨by rw[←List.getLast?_eq_getElem?];exact h,?_⟩;cases l with
 | nil=>cases h
 | cons x l=>simp
theorem WC {l:List a_} {e z:a_} {f:dr→dr} (h:l.getLast?=some e) (a:f e.abs=z.abs): (l.set (l.length - 1) z).map a_.abs=setLast (l.map a_.abs) f:=by
 have b: (l.map a_.abs).getLast?=some e.abs:=by rw[qE,h];rfl
 have c:=CR h
 unfold setLast;rw[b];dsimp only;rw[a,ob,qG,ay (by rw[cT];omega),List.dropLast_eq_take,cT,n9 (by rw[cT];omega)]
structure js (s:cK) (N:Int) (x:kh) (p:bh) (z:cK):Prop where
 g:z.g=s.g
 ok:fJ z (N+1)
 abs:z.abs=fI s.abs x p
theorem js.of {s:cK} {N:Int} {x:kh} {p:bh} (b:fJ s N) (c:x.text.length≤256) {z:cK} (d:z.g=s.g) (ai:gt z.l) (a:z.abs=fI s.abs x p):js s N x p z:=⟨d,⟨a▸Wj b.wf x c p,ai⟩,a⟩
theorem WD {l:List a_} {k:Nat} {z:a_} (h:gt l) (b:1≤z.br∧z.br≤4):gt (l.set k z):=λe c=>by
 rcases rX c with a | a
 exact h e a;exact a▸b
theorem WE {s:cK} {e:a_} (f:s.l.getLast?=some e) (g:1≤e.br∧e.br≤4) (x:kh) {p:bh} (i:dk p):fI s.abs x p=
 if x.kind=1 then fP s.abs 1 (hz p (gI e.abs)) else
 if x.kind=2 then (if 1≤(e.br:Int)∧(e.br:Int)≤1 then gr s.abs (λc=>gJ c 2 (hz p (gI e.abs))) else fP s.abs 2 (hz p (gI e.abs))) else
 if x.kind=3 then (if 1≤(e.br:Int)∧(e.br:Int)≤2 then gr s.abs (λc=>gJ c 3 (hz p (gI e.abs))) else fP s.abs 3 (hz p (gI e.abs))) else
 if x.kind=4 then (if 1≤(e.br:Int)∧(e.br:Int)≤3 then gr s.abs (λc=>{ gJ c 4 (hz p (gI e.abs)) with code:=x.code,has:=x.has }) else s.abs) else
 if x.kind=5 then (if 1≤(e.br:Int)∧(e.br:Int)≤3 then gr s.abs (λc=>{ c with line:=x.text }) else s.abs) else
 if x.kind=6 then (if 1≤(e.br:Int)∧(e.br:Int)≤2 then gr { s.abs with dir:=x.text } (λc=>{ c with dir:=x.text }) else { s.abs with dir:=x.text }) else s.abs:=by
 have d:s.abs.blocks.getLast?=some e.abs:=by show (s.l.map a_.abs).getLast?=_;rw[qE,f];rfl
 have j:lA s.abs p=hz p (gI e.abs):=by unfold lA;rw[d]
 have k: ∀(t:du) (a b:Nat),t.blocks=s.abs.blocks→(pi t a b=true)=((a:Int)≤(e.br:Int)∧(e.br:Int)≤(b:Int)):=λt a b m=>by
  unfold pi;rw[m,d];have n:e.abs.pl.length=e.br:=lB e g.2
  dsimp only;rw[n,d_,e2,e2];exact propext ⟨λh=>⟨aa,aa⟩,λh=>⟨aa,aa⟩⟩
 unfold fI;rw[ag (Classical.not_not.2 i),j];simp only[k _ _ _ rfl];rfl
theorem WF {s:cK} (d:s.l.getLast?=none) (x:kh) {p:bh} (e:dk p):fI s.abs x p=
 if x.kind=1 then fP s.abs 1 p else
 if x.kind=2 then fP s.abs 2 p else
 if x.kind=3 then fP s.abs 3 p else
 if x.kind=6 then { s.abs with dir:=x.text } else s.abs:=by
 have c:s.abs.blocks.getLast?=none:=by show (s.l.map a_.abs).getLast?=_;rw[qE,d];rfl
 have f:lA s.abs p=p:=by unfold lA;rw[c]
 have g: ∀(t:du) (a b:Nat),t.blocks=s.abs.blocks→pi t a b=false:=λt a b i=>by unfold pi;rw[i,c]
 unfold fI;rw[ag (Classical.not_not.2 e),f];simp only[g _ _ _ rfl,Bool.false_eq_true,if_false];split
 rfl
 split
 rfl
 split
 rfl
 split
 rename_i h;rw[ag aa]
 split
 rename_i h;rw[ag aa]
 rfl
theorem CS (w:World) (e:a_) (a:a8 w [e.an]) (n:Int) (k:Nat) (b:n=(k:Int)) (c:k≤4) (ai:e.br≤4) (p:bh):Calls prog 122 [ptr e.g,.int .i64 n,ee p].toArray w
 (aO (λ_:a_=> .tuple #[]) [e.an] (λz=>[z.an]) (λz=>z.g=e.g∧z.abs=gJ e.abs k p∧z.br≤4∧(z.br=k∨z.br=e.br∧k<e.br)) w):=by subst b;exact JE w e a k c ai p
theorem tO (w:World) (s:cK) (a:a8 w (cX s)) {N:Int} (b:fJ s N) (c:N≤1000000000000000) (n:Int) (k:Nat) (d:n=(k:Int)) (e:1≤k∧k≤4) (p:bh) (ai:em p):Calls prog 120 [ptr s.g,.int .i64 n,ee p].toArray w
 (aO (λ_:cK=> .tuple #[]) (cX s) cX (λz=>z.g=s.g∧fJ z (N+1)∧z.abs=fP s.abs k p) w):=by subst d;exact Wz w s a b c k e p ai
abbrev CT (x:kh):Value:= .agg [.int .i64 x.kind,.int .i64 x.code,.bool x.has,.string (bs x.text)].toArray
def yP (s:cK) (N:Int) (x:kh) (p:bh) (w:World):Ending→World→Prop:=aO (λ_:cK=> .tuple #[]) (cX s) cX (js s N x p) w
theorem WG (w:World) (s:cK) (A:a8 w (cX s)) {N:Int} (e:fJ s N) (o:N≤1000000000000000) (x:kh) (i:x.text.length≤256) (p:bh) (r:s.l.getLast?=none):Calls prog 68 [ptr s.g,CT x,ee p].toArray w (yP s N x p w):=by
 have j:=e.br
 refine bC func68 ntmps68 A ?_;refine ah ?_;intro G H I;refine ar ?_;intro J K L;refine bp ?_;refine ao rfl zF rfl (λa c=>CN a p) ?_;refine ax ?_;refine b6 rfl (λk=>?_) (λk=>?_);have m: ¬dk p:=λh=>by rw[b5 h] at k;exact absurd k aZ
 refine ah ?_;intro f b;exact aN s (js.of e i rfl j (by unfold fI;rw[ay m])) b;have m:dk p:=Classical.byContradiction λh=>by rw[bO h] at k;exact absurd k aZ
 have ai:=yM m
 have n:=WF r x m
 have B:x.kind=1→fP s.abs 1 p=fI s.abs x p:=λh=>by rw[n,ay h]
 have t:x.kind=2∨x.kind=3→fP s.abs x.kind.toNat p=fI s.abs x p:=λh=>by
  rcases h with h | h <;> rw[n,h] <;> rfl
 have C:x.kind=6→({ s with dir:=x.text }:cK).abs=fI s.abs x p:=λh=>by rw[n,h];rfl
 have q: ¬x.kind=1∧ ¬x.kind=2∧ ¬x.kind=3∧ ¬x.kind=6→s.abs=fI s.abs x p:=λh=>by rw[n,ag h.1,ag h.2.1,ag h.2.2.1,ag h.2.2.2]
 refine ax ?_;refine ao rfl zC rfl (λa c=>(by have h:=CO a s (c.has cu) (c.has hL);rw[r] at h;exact h)) ?_;refine lR ?_;refine aj (λu=>?_) (λu=>?_);refine ah ?_;refine aY (l0:=cX s) ae rfl sn rfl (λa c=>tO a s (c.bo ae) e o _ 1 rfl aa p ai) (λz d=>?_);refine ah ?_;intro f b;exact aN z ⟨d.1,d.2.1,d.2.2.trans (B u)⟩ b;refine aD ?_;refine aj (λaK=>?_) (λaK=>?_);have v:=aK
 refine aq ?_;refine eA rfl ((b5 v)) ?_;refine bB ?_;refine ao rfl nf rfl (λa c=>vV a _ _) ?_;refine aD ?_;refine aY (l0:=cX s) ae rfl sn rfl (λa c=>tO a s (c.bo ae) e o _ x.kind.toNat aa aa p ai) (λz d=>?_);refine ah ?_;intro f b;exact aN z ⟨d.1,d.2.1,d.2.2.trans (t aa)⟩ b;have v:=aK
 refine ax ?_;refine aj (λD=>?_) (λD=>?_);refine bB ?_;refine ao rfl nf rfl (λa c=>vV a _ _) ?_;refine aD ?_;refine aY (l0:=cX s) ae rfl sn rfl (λa c=>tO a s (c.bo ae) e o _ x.kind.toNat aa aa p ai) (λz d=>?_);refine ah ?_;intro f b;exact aN z ⟨d.1,d.2.1,d.2.2.trans (t aa)⟩ b;refine al ?_;refine aj (λE=>?_) (λE=>?_);refine ah ?_;refine ao rfl nf rfl (λa c=>vV a _ _) ?_;refine al ?_;intro f b;exact aN s (js.of e i rfl j (q aa)) b;refine al ?_;refine aj (λF=>?_) (λF=>?_);refine ah ?_;refine ao rfl nf rfl (λa c=>vV a _ _) ?_;refine al ?_;intro f b;exact aN s (js.of e i rfl j (q aa)) b;refine al ?_;refine aj (λy=>?_) (λy=>?_);refine bI ?_;refine ao rfl nf rfl (λa c=>vV a _ _) ?_;refine al ?_;intro f b;exact aN { s with dir:=x.text } (js.of e i rfl j (C y)) b;refine ah ?_;intro f b;exact aN s (js.of e i rfl j (q aa)) b
theorem vX {b w:World} {S:List Nat} {s:cK} {cs:List Chunk} {N:Int} {x:kh} {p:bh} (a:fJ s N) (i:x.text.length≤256) {e z:a_} (d:s.l.getLast?=some e) (j:z.g=e.g) (k:1≤z.br∧z.br≤4) {f:dr→dr} (m:f e.abs=z.abs) (dir:List UInt8)
 (n:fI s.abs x p=gr { s.abs with dir:=dir } f) (o:af b S (z.an::aU ((s.l.map a_.an).eraseIdx (s.l.length - 1))::(cK.an { s with dir:=dir })::eo s.A s.c s.l::cs) w):
 js s N x p { s with l:=s.l.set (s.l.length - 1) z,dir:=dir }∧af b S (cX { s with l:=s.l.set (s.l.length - 1) z,dir:=dir }) w:=by
 have h:=(CR d).1
 refine⟨js.of a i rfl (WD a.br k) ?_,?_⟩;rw[n];show (⟨_,_,_,_⟩ :du)=⟨_,_,_,_⟩
 rw[WC d m];rfl
 have q:=o.CQ h
 simp only[cX,cK.an,rE,WB h j,fL];exact q.aw ae
theorem vY {w a:World} {s z:cK} {N:Int} {x:kh} {p:bh} (h:js s N x p z∧af w (aA (cX s)) (cX z) a):yP s N x p w (.returned (.tuple #[])) a:=aO.bQ z h.1 rfl h.2
theorem WH (w:World) (s:cK) (Zd:a8 w (cX s)) {N:Int} (i:fJ s N) (V:N≤1000000000000000) (x:kh) (r:x.text.length≤256) (p:bh) {e:a_} (t:s.l.getLast?=some e):Calls prog 68 [ptr s.g,CT x,ee p].toArray w (yP s N x p w):=by
 have y:=i.br
 have u:e∈s.l:=pr t
 have v:=y e u
 have B: (s.l.map a_.an)[s.l.length - 1]? = some e.an:=by rw[eJ,(CR t).1];rfl
 refine bC func68 ntmps68 Zd ?_;refine ah ?_;intro Zs Zt Zu;refine ar ?_;intro Zv Zw Zx;refine bp ?_;refine ao rfl zF rfl (λa b=>CN a p) ?_;refine ax ?_;refine b6 rfl (λC=>?_) (λC=>?_);have R: ¬dk p:=λh=>by rw[b5 h] at C;exact absurd C aZ
 refine ah ?_;intro m c;exact aN s (js.of i r rfl y (by unfold fI;rw[ay R])) c;have R:dk p:=Classical.byContradiction λh=>by rw[bO h] at C;exact absurd C aZ
 have ai:=CG (yM R) (CF (i.wf.e9 e.abs (dX.2 ⟨e,u,rfl⟩)))
 have n:=WE t v x R
 obtain⟨q,X⟩ : ∃q,q=hz p (gI e.abs):=⟨_,rfl⟩;rw[←X] at ai n
 have Ze:x.kind=1→fP s.abs 1 q=fI s.abs x p:=λh=>by rw[n,ay h]
 have Y: (x.kind=2∨x.kind=3)∧ ¬(1≤(e.br:Int)∧(e.br:Int)≤x.kind - 1)→fP s.abs x.kind.toNat q=fI s.abs x p:=λh=>by
  rcases h.1 with j | j
  rw[n,ag aa,ay j,ag aa,j];rfl
  rw[n,ag aa,ag aa,ay j,ag aa,j];rfl
 have Z: (x.kind=2∨x.kind=3)∧(1≤(e.br:Int)∧(e.br:Int)≤x.kind - 1)→fI s.abs x p=gr s.abs (λd=>gJ d x.kind.toNat q):=λh=>by
  rcases h.1 with j | j
  rw[n,ag aa,ay j,ay aa,j];rfl
  rw[n,ag aa,ag aa,ay j,ay aa,j];rfl
 have Zf:x.kind=4∧(1≤(e.br:Int)∧(e.br:Int)≤3)→fI s.abs x p=gr s.abs (λd=>{ gJ d 4 q with code:=x.code,has:=x.has }):=λh=>by
  rw[n,ag aa,ag aa,ag aa,ay h.1,ay h.2]
 have Zg:x.kind=5∧(1≤(e.br:Int)∧(e.br:Int)≤3)→fI s.abs x p=gr s.abs (λd=>{ d with line:=x.text }):=λh=>by
  rw[n,ag aa,ag aa,ag aa,ag aa,ay h.1,ay h.2]
 have Zh:x.kind=6∧(1≤(e.br:Int)∧(e.br:Int)≤2)→fI s.abs x p=gr { s.abs with dir:=x.text } (λd=>{ d with dir:=x.text }):=λh=>by
  rw[n,ag aa,ag aa,ag aa,ag aa,ag aa,ay h.1,ay h.2]
 have Zi:x.kind=6∧ ¬(1≤(e.br:Int)∧(e.br:Int)≤2)→({ s with dir:=x.text }:cK).abs=fI s.abs x p:=λh=>by
  rw[n,ag aa,ag aa,ag aa,ag aa,ag aa,ay h.1,ag h.2];rfl
 have W: (x.kind=4∨x.kind=5)∧ ¬(1≤(e.br:Int)∧(e.br:Int)≤3)∨ ¬x.kind=1∧ ¬x.kind=2∧ ¬x.kind=3∧ ¬x.kind=4∧ ¬x.kind=5∧ ¬x.kind=6→s.abs=fI s.abs x p:=λh=>by
  rw[n];rcases h with ⟨j | j,Za⟩ | h
  rw[ag aa,ag aa,ag aa,ay j,ag Za];rw[ag aa,ag aa,ag aa,ag aa,ay j,ag Za];rw[ag h.1,ag h.2.1,ag h.2.2.1,ag h.2.2.2.1,ag h.2.2.2.2.1,ag h.2.2.2.2.2]
 refine ax ?_;refine ao rfl zC rfl (λa b=>(by have h:=CO a s (b.has cu) (b.has hL);rw[t] at h;exact h)) ?_;refine bp ?_;refine bF [0,1] 3 [[(2,false,[]),(3,false,[]),(4,true,[])]] ?_;refine aS ?_;refine ao rfl Ef rfl (λa b=>JD a e (ml (b.has hp) u) v) ?_;refine ah ?_;refine ao rfl Ee rfl (λa b=>(by have h:=Jp a p (gI e.abs);rw[←X] at h;exact h)) ?_;refine hs ?_;refine aj (λZb=>?_) (λZb=>?_);refine ah ?_;refine aY (l0:=cX s) ae rfl sn rfl (λa b=>tO a s (b.bo ae) i V _ 1 rfl aa q ai) (λz o=>?_);refine ah ?_;intro m c;exact aN z ⟨o.1,o.2.1,o.2.2.trans (Ze Zb)⟩ c;refine aD ?_;refine aj (λaK=>?_) (λaK=>?_);have Zc:=aK
 refine aq ?_;refine eA rfl ((b5 Zc)) ?_;refine bB ?_;refine ao rfl nf rfl (λa b=>vW a e (ml (b.has hp) u) _ _) ?_;refine aq ?_;refine aj (λZj=>?_) (λZj=>?_);refine aq ?_;refine vP (L:=s.l.map a_.an) (k:=s.l.length - 1) nt B ?_;refine aq ?_;refine aY (l0:=[e.an]) ae rfl wP rfl (λa b=>CS a e (b.bo ae) _ x.kind.toNat aa aa v.2 q) (λ⟨S,T,U,D,E,F,G,H,I,J,K,M⟩ ⟨A,O,P,Q⟩=>?_);refine ah ?_;intro m c;exact vY (vX i r t (z:=⟨S,T,U,D,E,F,G,H,I,J,K,M⟩) A (by dsimp only at P Q ⊢;omega) (f:=λd=>gJ d x.kind.toNat q) O.symm s.dir (Z aa) (c.aw ae));refine aS ?_;refine aY (l0:=cX s) ae rfl sn rfl (λa b=>tO a s (b.bo ae) i V _ x.kind.toNat aa aa q ai) (λz o=>?_);refine ah ?_;intro m c;exact aN z ⟨o.1,o.2.1,o.2.2.trans (Y aa)⟩ c;have Zc:=aK
 refine ax ?_;refine aj (λZk=>?_) (λZk=>?_);refine bB ?_;refine ao rfl nf rfl (λa b=>vW a e (ml (b.has hp) u) _ _) ?_;refine aq ?_;refine aj (λZl=>?_) (λZl=>?_);refine aq ?_;refine vP (L:=s.l.map a_.an) (k:=s.l.length - 1) nt B ?_;refine aq ?_;refine aY (l0:=[e.an]) ae rfl wP rfl (λa b=>CS a e (b.bo ae) _ x.kind.toNat aa aa v.2 q) (λ⟨S,T,U,D,E,F,G,H,I,J,K,M⟩ ⟨A,O,P,Q⟩=>?_);refine ah ?_;intro m c;exact vY (vX i r t (z:=⟨S,T,U,D,E,F,G,H,I,J,K,M⟩) A (by dsimp only at P Q ⊢;omega) (f:=λd=>gJ d x.kind.toNat q) O.symm s.dir (Z aa) (c.aw ae));refine aS ?_;refine aY (l0:=cX s) ae rfl sn rfl (λa b=>tO a s (b.bo ae) i V _ x.kind.toNat aa aa q ai) (λz o=>?_);refine ah ?_;intro m c;exact aN z ⟨o.1,o.2.1,o.2.2.trans (Y aa)⟩ c;refine al ?_;refine aj (λZm=>?_) (λZm=>?_);refine ah ?_;refine ao rfl nf rfl (λa b=>vW a e (ml (b.has hp) u) _ _) ?_;refine aq ?_;refine aj (λZn=>?_) (λZn=>?_);refine ah ?_;refine vP (L:=s.l.map a_.an) (k:=s.l.length - 1) nt B ?_;refine ar ?_;refine aY (l0:=[e.an]) ae rfl wP rfl (λa b=>CS a e (b.bo ae) _ 4 rfl aa v.2 q) (λ⟨S,T,U,D,E,F,G,H,I,J,K,M⟩ ⟨A,O,P,Q⟩=>?_);refine aq ?_;dsimp only at A Q P;subst A
 refine eq [0,1,2,3,4,5,6,7,8] 2 [[(9,false,[10,11,12]),(13,true,[])]] (_) mixed ab (λ_ c=>c.drew) (λ_ h=>h.rem bv.head) ?_;refine bB ?_;refine bV (λ_=>True) (λ_ h=> .inr (h.rem bv.head)) (λ_ h=>aT) ?_;refine bp ?_;intro m c;exact vY (vX i r t (z:=⟨e.g,x.code,x.has,D,E,F,G,H,I,J,K,M⟩) rfl bm (f:=λd=>{ gJ d 4 q with code:=x.code,has:=x.has }) (by dsimp only;rw[←O];rfl) s.dir (Zf aa) (c.aw ae));refine ah ?_;intro m c;exact aN s (js.of i r rfl y (W aa)) c;refine al ?_;refine aj (λZo=>?_) (λZo=>?_);refine ah ?_;refine ao rfl nf rfl (λa b=>vW a e (ml (b.has hp) u) _ _) ?_;refine aq ?_;refine aj (λZp=>?_) (λZp=>?_);refine aq ?_;refine vP (L:=s.l.map a_.an) (k:=s.l.length - 1) nt B ?_;refine aJ ?_;intro m c;exact vY (vX i r t (z:={ e with line:=x.text }) rfl v (f:=λd=>{ d with line:=x.text }) rfl s.dir (Zg aa) (c.aw ae));refine ah ?_;intro m c;exact aN s (js.of i r rfl y (W aa)) c;refine al ?_;refine aj (λZq=>?_) (λZq=>?_);refine bI ?_;refine ao rfl nf rfl (λa b=>vW a e (ml (b.has hp) u) _ _) ?_;refine aq ?_;refine aj (λZr=>?_) (λZr=>?_);refine aq ?_;refine vP (L:=s.l.map a_.an) (k:=s.l.length - 1) nt B ?_;refine aJ ?_;intro m c;exact vY (vX i r t (z:={ e with dir:=x.text }) rfl v (f:=λd=>{ d with dir:=x.text }) rfl x.text (Zh aa) (c.aw ae));refine ah ?_;intro m c;exact aN { s with dir:=x.text } (js.of i r rfl y (Zi aa)) c;refine ah ?_;intro m c;exact aN s (js.of i r rfl y (W aa)) c
theorem WI (w:World) (s:cK) (a:a8 w (cX s)) {N:Int} (b:fJ s N) (c:N≤1000000000000000) (x:kh) (d:x.text.length≤256) (p:bh):Calls prog 68 [ptr s.g,CT x,ee p].toArray w (yP s N x p w):=by
 cases f:s.l.getLast? with
 | none=>exact WG w s a b c x d p f
 | some e=>exact WH w s a b c x d p f
section
def iW {α:Type} (f:α→α) (l:List α) (i:Nat):List α:=(l.take i).map f++l.drop i
section
variable {α:Type} {f:α→α} {l:List α} {i:Nat} {e:α}
theorem JJ:iW f l 0=l:=by simp[iW]
theorem JK (h:l.length≤i):iW f l i=l.map f:=by rw[iW,ez h,n9 h,fR]
theorem CU (h:l[i]? = some e): (iW f l i)[i]? = some e:=by
 have hi:=(cY.1 h).1
 rw[iW,kY (by simp;omega),mu];simpa [iE (Nat.le_of_lt hi)] using h
theorem WJ (h:l[i]? = some e): (iW f l i).set i (f e)=iW f l (i+1):=by
 have hi:=(cY.1 h).1
 have b:=(cY.1 h).2
 have a: ((l.take i).map f).length=i:=by simp;omega
 unfold iW;rw[rY _ _ aa,a,m9,lG hi,mw,gk,h];simp
end
theorem JL {f:a_→a_} (a: ∀e,(f e).g=e.g) (A:Option Addr) (c:Nat) (l:List a_):eo A c (l.map f)=eo A c l:=by
 show gH _ _ _ (l.map f).length _ (jP.all ((l.map f).map a_.g))=_
 have e:l.map (a_.g ∘ f)=l.map a_.g:=uh (λe _=>a e)
 rw[cT,lJ,e]
def kV (x:ec) (e:a_):a_:={ e with cut:=e.cut || qo e.cc x }
theorem WK (x:ec) {e:a_} (h:1≤e.br∧e.br≤4): (kV x e).abs=qr x e.abs:=by
 unfold qr;rw[vU e h];rfl
theorem WL (x:ec) {l:List a_} (h:gt l): (l.map (kV x)).map a_.abs=(l.map a_.abs).map (qr x):=by
 rw[lJ,lJ];exact uh (λe a=>WK x (h e a))
theorem af.WM {b w:World} {S:List Nat} {cs:List Chunk} {a c:a_} {l:List a_} (h:af b S (eQ (a::c::l)::cs) w):af b S (a.an::c.an::eQ l::cs) w:=by
 have d:af b S (a.an::aU (c.an::l.map a_.an)::cs) w:=h.pick (k:=0) rfl
 have e:af b S (aU (c.an::l.map a_.an)::a.an::cs) w:=d.perm (List.Perm.swap _ _ _)
 have f:af b S (c.an::eQ l::a.an::cs) w:=e.pick (k:=0) rfl
 exact f.perm (oh (l₁:=[c.an,eQ l]) (l₂:=cs))
theorem WN {P:Program} {n:Nat} {d:Code} {Q:cq} {e:Fr} {b:World} {S:List Nat} {cs cs':List Chunk} {a c:a_} {l:List a_} (f:bv cs (eQ (a::c::l)) cs') (h:de P n d Q e (af b S (a.an::c.an::eQ l::cs'))):de P n d Q e (af b S cs):=
 cL h (Sub.refl _) (λ_ g=>(g.perm f.perm).WM)
theorem af.CV {b w:World} {S:List Nat} {cs:List Chunk} {c:a_} {l:List a_} (h:af b S (c.an::eQ l::cs) w):af b S (eQ (c::l)::cs) w:=by
 have a:af b S (aU [c.an]::eQ l::cs) w:=h.close (l:=[c.an]) ae
 exact a.AS
theorem af.JM {b w:World} {S:List Nat} {cs:List Chunk} {a c:a_} {l:List a_} (h:af b S (a.an::c.an::eQ l::cs) w):af b S (eQ (a::c::l)::cs) w:=by
 have d:af b S (c.an::eQ l::a.an::cs) w:=h.perm (oh (l₁:=[c.an,eQ l]) (l₂:=cs)).symm
 exact (d.CV.perm (List.Perm.swap _ _ _)).CV
theorem af.CW {b w:World} {S:List Nat} {cs:List Chunk} {f:a_→a_} {l:List a_} {i:Nat} {e z:a_} (h:af b S (z.an::aU (((iW f l i).map a_.an).eraseIdx i)::cs) w) (a:l[i]? = some e) (d:z=f e):af b S (eQ (iW f l (i+1))::cs) w:=by
 have c:=h.CQ (CU a)
 rw[d,WJ a] at c
 exact c
abbrev cK.WO (s:cK) (A:Option Addr) (c:Nat) (l:List a_):cK:={ s with A:=A,c:=c,l:=l }
theorem WP (w:World) (s:cK) (Y:a8 w (cX s)) {N:Int} (Q:fJ s N) (x:ec):Calls prog 117 [ptr s.g,rC x].toArray w
 (aO (λ_:Option Addr × Nat × List a_=> .tuple #[]) (cX s) (λt=>cX (s.WO t.1 t.2.1 t.2.2)) (λt=>gt t.2.2∧t.2.2.map a_.abs=(ha x (s.l.map a_.abs)).map (qr x)) w):=by
 have Z:=Q.len
 have R:=Q.br
 obtain⟨g,A,c,l,most,ids,dir⟩:=s;dsimp only at Z R ⊢
 refine bC func117 ntmps117 Y ?_;refine ah ?_;intro v Zh Zi;refine aL ?_;intro B Zj Zk;refine aS ?_;refine hK (λ_:Option Addr × Nat × List a_=>[(0,ptr g),(3,ptr v),(4,ptr B)]) (λt=>af w (aA (cX ⟨g,A,c,l,most,ids,dir⟩)) (aE B [.int .i64 x.n,.int .i64 0] 51::aE v x.enc 167::cX ⟨g,t.1,t.2.1,t.2.2,most,ids,dir⟩)) (λt=>gt t.2.2∧t.2.2.length≤10000∧t.2.2.map a_.abs=ha x (l.map a_.abs)) ?_ ?_;refine ar ?_;refine b1 (ι:=Option Addr × Nat × List a_) (λ_=>[(0,ptr g),(3,ptr v),(4,ptr B)]) (λt=>af w (aA (cX ⟨g,A,c,l,most,ids,dir⟩)) (aE B [.int .i64 x.n,.int .i64 0] 51::aE v x.enc 167::cX ⟨g,t.1,t.2.1,t.2.2,most,ids,dir⟩)) (λt=>gt t.2.2∧t.2.2.length≤10000∧ha x (t.2.2.map a_.abs)=ha x (l.map a_.abs)) (λt=>t.2.2.length) ?_ ?_;exact λw' M=>⟨(A,c,l),⟨R,by dsimp only;omega,rfl⟩,(ef rfl rfl rfl),M⟩
 rintro⟨C,c1,l1⟩ ⟨r,E,F⟩;dsimp only at r E F ⊢
 refine yK (A:=C) (m:=l1.length) (c:=c1) hL (λK=>?_);rcases l1 with _ | ⟨a,_ | ⟨d,l2⟩⟩
 refine aq ?_;refine bF [0,1,2,3,4,5,6,7,8,9,10,11,12,13,14,15,16,17] 2 [[(18,true,[19,20,21,22,23,24,25,26,27,28,29,30,31]),(32,true,[33,34])]] ?_;refine aD ?_;refine aI rfl (λp b=>f_ rfl rfl rfl (av) aC) ?_;refine aI rfl (λp b=>f_ rfl rfl rfl (av) aC) ?_;refine aI rfl (λp b=>f_ rfl rfl rfl (av) aC) ?_;refine aI rfl (λp b=>f_ rfl rfl rfl (av) aC) ?_;refine aI rfl (λp b=>f_ rfl rfl rfl (av) aC) ?_;refine aI rfl (λp b=>f_ rfl rfl rfl (av) aC) ?_;refine aI rfl (λp b=>f_ rfl rfl rfl (av) aC) ?_;refine aI rfl (λp b=>f_ rfl rfl rfl (av) aC) ?_;refine aI rfl (λp b=>f_ rfl rfl rfl (av) aC) ?_;refine aI rfl (λp b=>f_ rfl rfl rfl (av) aC) ?_;refine aI rfl (λp b=>f_ rfl rfl rfl (av) aC) ?_;refine aq ?_;refine f_ rfl rfl rfl (av) ?_;refine bV (_) (λ_ _=> .inl rfl) (λ_ h=>h) ?_;refine aI rfl (λp b=>(ig rfl rfl av rfl aC)) ?_;refine lR ?_;exact dw (C,c1,[]) ⟨r,E,F⟩ bR (λ_ h=>h);refine aq ?_;refine bF [0,1,2,3,4,5,6,7,8,9,10,11,12,13,14,15,16,17] 2 [[(18,true,[19,20,21,22,23,24,25,26,27,28,29,30,31]),(32,true,[33,34])]] ?_;refine aD ?_;refine aI rfl (λp b=>f_ rfl rfl rfl (av) aC) ?_;refine aI rfl (λp b=>f_ rfl rfl rfl (av) aC) ?_;refine aI rfl (λp b=>f_ rfl rfl rfl (av) aC) ?_;refine aI rfl (λp b=>f_ rfl rfl rfl (av) aC) ?_;refine aI rfl (λp b=>f_ rfl rfl rfl (av) aC) ?_;refine aI rfl (λp b=>f_ rfl rfl rfl (av) aC) ?_;refine aI rfl (λp b=>f_ rfl rfl rfl (av) aC) ?_;refine aI rfl (λp b=>f_ rfl rfl rfl (av) aC) ?_;refine aI rfl (λp b=>f_ rfl rfl rfl (av) aC) ?_;refine aI rfl (λp b=>f_ rfl rfl rfl (av) aC) ?_;refine aI rfl (λp b=>f_ rfl rfl rfl (av) aC) ?_;refine aq ?_;refine f_ rfl rfl rfl (av) ?_;refine bV (_) (λ_ _=> .inl rfl) (λ_ h=>h) ?_;refine aI rfl (λp b=>(ig rfl rfl av rfl aC)) ?_;refine lR ?_;exact dw (C,c1,[a]) ⟨r,E,F⟩ bR (λ_ h=>h);obtain⟨y,o,O⟩:=K.2.2 av;have Zl:l2.length+2≤c1:=K.1
 subst O;have S:=vU a (r a av)
 have T:=vU d (r d av)
 have Za:qo a.cc x=true→hO ⟨x.n,0⟩ d.cc=false→ha x ((d::l2).map a_.abs)=ha x (l.map a_.abs):=λZb Zc=>by
  rw[←F];show _=ha x (a.abs::d.abs::l2.map a_.abs)
  rw[ha,S,T,ay ⟨Zb,Zc⟩];rfl
 have U:qo a.cc x=false∨hO ⟨x.n,0⟩ d.cc=true→(a::d::l2).map a_.abs=ha x (l.map a_.abs):=λq=>by
  rw[←F];show _=ha x (a.abs::d.abs::l2.map a_.abs)
  rw[ha,S,T,ag (λe=>by rcases q with q | q <;> simp_all)];rfl
 refine WN nt ?_;refine aq ?_;refine bF [0,1,2,3,4,5,6,7,8,9,10,11,12,13,14,15,16,17] 2 [[(18,false,[19,20,21,22,23,24,25,26,27,28,29,30,31]),(32,false,[33,34])]] ?_;refine aD ?_;refine aI rfl (λp b=>bY rfl rfl ((by simp;omega)) (gl rfl rfl aC)) ?_;refine aI rfl (λp b=>bY rfl rfl ((by simp;omega)) (nq rfl rfl aC)) ?_;refine aI rfl (λp b=>bY rfl rfl ((by simp;omega)) (k2 LZ rfl rfl aC)) ?_;refine aI rfl (λp b=>bY rfl rfl ((by simp;omega)) (a7 mB rfl rfl (λI D=>by subst D;exact b.ep kv rfl) aC)) ?_;refine aI rfl (λp b=>bY rfl rfl ((by simp;omega)) (bw (q:=0) k7 rfl rfl rfl rfl rfl (by show 0<l2.length+1+1;omega) aC)) ?_;refine aI rfl (λp b=>bY rfl rfl ((by simp;omega)) (a7 ne rfl rfl (λI D=>by subst D;exact n2 (b.has eX) (k:=0) (e:=a) rfl) aC)) ?_;refine aI rfl (λp b=>bY rfl rfl ((by simp;omega)) (nq rfl rfl aC)) ?_;refine aI rfl (λp b=>bY rfl rfl ((by simp;omega)) (k2 LX rfl rfl aC)) ?_;refine aI rfl (λp b=>bY rfl rfl ((by simp;omega)) (dt (q:=0) underlying135 mA rfl rfl rfl bb aa aC)) ?_;refine aI rfl (λp b=>bY rfl rfl ((by simp;omega)) (cy dN rfl rfl rfl (λI D j u P=>by subst D;exact b.k5 (sz:=2) aQ rfl j u P) aC)) ?_;refine aI rfl (λp b=>bY rfl rfl ((by simp;omega)) (cy zw rfl rfl rfl (λI D j u P=>by subst D;exact b.k5 (sz:=3) hp rfl j u P) aC)) ?_;refine aq ?_;refine bY rfl rfl ((by simp;omega)) ?_;refine ao rfl zK rfl (λJ V=>Cw J a.cc x) ?_;refine bV (_) (λ_ h=> .inr h) (λ_ h=>h) ?_;refine aI rfl (λp b=>(zj rfl rfl (by simp;omega) rfl aC)) ?_;refine ar ?_;refine no 30 rfl (λG=>?_) (λG=>?_);have Zd:=a1 G
 refine ax ?_;refine aI rfl (λp b=>bY rfl rfl (G) (bw (q:=1) k7 rfl rfl rfl rfl rfl (by show 1<l2.length+1+1;omega) aC)) ?_;refine aI rfl (λp b=>bY rfl rfl (G) (a7 ne rfl rfl (λI D=>by subst D;exact n2 (b.has eX) (k:=1) (e:=d) rfl) aC)) ?_;refine aq ?_;refine aI rfl (λp b=>bY rfl rfl (G) (dt (q:=0) underlying135 mA rfl rfl rfl bb aa aC)) ?_;refine aS ?_;refine ao rfl uA rfl (λJ V=>vN J ⟨x.n,0⟩ d.cc) ?_;refine bV (λ_=>True) (λ_ h=> .inr ⟨.inr h,h⟩) (λ_ h=>aT) ?_;refine ax ?_;refine b6 rfl (λaK=>?_) (λaK=>?_);simp only[b3] at aK
 refine aJ ?_;refine ft 1 (l2.length+2) k7 rfl rfl (.inl ⟨_,_,rfl,rfl,rfl⟩) (.inr ⟨rfl,rfl⟩) aa aa ?_;rw[ag (show ¬c1=1 by omega)];refine CC (c:=eo (some ⟨y,o,none⟩) c1 (a::d::l2)) (c':=eo ((some ⟨y,o,none⟩ :Option Addr).map (·.add (1*1))) (c1 - 1) (d::l2)) uL (Jt _ _ _ _ _ _ _ _ _ _) (λw h=>JF av h) ?_;refine ax ?_;exact bg ((some ⟨y,o,none⟩ :Option Addr).map (·.add (1*1)),c1 - 1,d::l2) ⟨λe H=>r e (rW _ H),Nat.le_of_succ_le E,Za G aK⟩ (Nat.lt_succ_self _) (ef rfl rfl rfl) (λ_ h=>((h.aw (l:=[d.an,eQ l2,aE B _ 51,aE v _ 167,aE g _ 140,eo ((some ⟨y,o,none⟩ :Option Addr).map (·.add (1*1))) (c1 - 1) (d::l2)]) ae).CV).aw ae);simp only[b3] at aK
 refine aS ?_;exact dw (some ⟨y,o,none⟩,c1,a::d::l2) ⟨r,E,U (.inr aK)⟩ (ef rfl rfl rfl) (λ_ h=>(af.JM (h.aw (l:=[a.an,d.an,eQ l2,aE B _ 51,aE v _ 167,aE g _ 140,eo (some ⟨y,o,none⟩) c1 (a::d::l2)]) ae)).aw ae);have Zd:=bc G
 refine b_ ?_;refine bV (λ_=>True) (λ_ h=> .inr ⟨.inr h,h⟩) (λ_ h=>aT) ?_;refine aR ?_;exact dw (some ⟨y,o,none⟩,c1,a::d::l2) ⟨r,E,U (.inl G)⟩ (ef rfl rfl rfl) (λ_ h=>(af.JM (h.aw (l:=[a.an,d.an,eQ l2,aE B _ 51,aE v _ 167,aE g _ 140,eo (some ⟨y,o,none⟩) c1 (a::d::l2)]) ae)).aw ae);rintro⟨C,c1,l1⟩ ⟨r,E,F⟩;dsimp only at r E F ⊢
 refine bB ?_;refine b1 (ι:=Nat) (λi=>[(3,ptr v),(56,.slice C l1.length c1),(57,.int .i64 (l1.length:Int)),(58,.int .i64 (i:Int))]) (λi=>af w (aA (cX ⟨g,A,c,l,most,ids,dir⟩)) [aE B [.int .i64 x.n,.int .i64 0] 51,aE v x.enc 167,aE g [.slice C l1.length c1,.int .i64 most,.int .u64 ids,.string (bs dir)] 140,eo C c1 l1,eQ (iW (kV x) l1 i)]) (λi=>i≤l1.length) (λi=>l1.length - i) ?_ ?_;exact λw' M=>⟨0,bP _,(cw rfl rfl rfl rfl),by rw[JJ];exact M⟩
 intro i hi;refine yK (A:=C) (m:=l1.length) (c:=c1) hL (λK=>?_);refine al ?_;refine aj (λZe=>?_) (λZe=>?_);obtain⟨e,H⟩ : ∃e,l1[i]? = some e:=⟨_,bG aa⟩;obtain⟨y,o,O⟩:=K.2.2 aa;subst O;have Zf:e.cut=true→(kV x e).an=aE e.g ((kU e).set 2 (.bool true)) 137:=λh=>by simp[a_.an,kV,h]
 have Zg:e.cut=false→(kV x e).an=aE e.g ((kU e).set 2 (.bool (qo e.cc x))) 137:=λh=>by simp[a_.an,kV,h]
 refine CD (L:=(iW (kV x) l1 i).map a_.an) (c:=e.an) (k:=i) nt (by rw[eJ,CU H];rfl) ?_;refine al ?_;refine bw (q:=i) k7 rfl rfl rfl rfl rfl aa ?_;refine a7 ne rfl rfl (λI r=>n2 (r.has kv) H) ?_;refine ah ?_;refine bF [0,1,2,3,4,5,6,7,8,9,10,11,12] 2 [[(13,false,[14,15,16,17]),(18,true,[])]] ?_;refine aD ?_;refine no 68 rfl (λW=>?_) (λW=>?_);refine lR ?_;exact bg (i+1) aa aa (cw rfl rfl rfl rfl) (λ_ h=>(af.CW (z:=kV x e) ((Zf bA).symm▸(h.aw (l:=[aE e.g _ 137,aU (((iW (kV x) l1 i).map a_.an).eraseIdx i),aE B _ 51,aE v _ 167,aE g _ 140,eo (some ⟨y,o,none⟩) c1 l1]) ae)) H rfl).aw ae);refine ah ?_;refine aI rfl (λp b=>bY rfl rfl (W) (dt (q:=0) underlying135 mA rfl rfl rfl bb aa aC)) ?_;refine ax ?_;refine ao rfl zK rfl (λJ V=>Cw J e.cc x) ?_;refine et ?_;exact bg (i+1) aa aa (cw rfl rfl rfl rfl) (λ_ h=>(af.CW (z:=kV x e) ((Zg bA).symm▸(h.aw (l:=[aE e.g _ 137,aU (((iW (kV x) l1 i).map a_.an).eraseIdx i),aE B _ 51,aE v _ 167,aE g _ 140,eo (some ⟨y,o,none⟩) c1 l1]) ae)) H rfl).aw ae);refine ax ?_;intro Zm X;refine aO.bQ (C,c1,l1.map (kV x)) ⟨λe H=>by obtain⟨d,ak,rfl⟩:=dX.1 H;exact r d ak,by dsimp only;rw[WL x r,F]⟩ rfl ?_;rw[JK aa] at X
 simp only[cX,cK.an,rE,JL (f:=kV x) (λ_=>rfl),cT];exact X.aw ae
end
end Go.Proofs.YtoghoobfpcadbaaGreatDoor.Mq
