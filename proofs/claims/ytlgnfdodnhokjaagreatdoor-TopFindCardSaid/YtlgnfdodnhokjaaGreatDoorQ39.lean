/- part 39 of the proof -/
import Derived.Test.YtlgnfdodnhokjaaGreatDoorQ38
import Derived.MapKept
namespace Go.Proofs.YtlgnfdodnhokjaaGreatDoor.Mq
open Go Go.RowKit Go.Proofs Tryz
def oi (s:List UInt8):List UInt8:=(s.reverse.dropWhile (· == 10)).reverse
theorem Yo {s:List UInt8} (h:uc s [10]=true):oi (s.take (s.length - 1))=oi s:=by
 have a:=aX h
 have e:s=s.take (s.length - 1)++[10]:=by
  conv=>lhs;rw[←iF (s.length - 1) s]
  exact aU _ a
 generalize s.take (s.length - 1)=t at e
 subst e;unfold oi;rw[uv];simp
theorem Yp {s:List UInt8} (h:uc s [10]=false):oi s=s:=by
 rcases List.eq_nil_or_concat s with rfl | ⟨t,x,rfl⟩
 rfl
 unfold oi;rw[List.concat_eq_append,uv];rw[show [x].reverse++t.reverse=x::t.reverse from rfl,List.dropWhile_cons_of_neg,List.reverse_cons,List.reverse_reverse];intro a;have b:x=10:=by simpa using a
 subst b;have:=bd h
 exact this av
theorem Yq (w:World) (s p:List UInt8) (a:s.length≤9223372036854775807) (ai:p.length≤9223372036854775807):Calls prog 78 [.string (bs s),.string (bs p)].toArray w (λe w'=>e= .returned (.bool (uc s p))∧Ext [] w w'):=by
 refine aV func78 ntmps78 ?_;refine aJ ?_;refine ao rfl Yl rfl (λw' _=>Yn w' s p a ai) ?_;refine ay ?_;intro c b;exact⟨rfl,b.ext⟩
theorem Yr (w:World) (s:List UInt8) (f:s.length≤9223372036854775807):Calls prog 45 [.string (bs s)].toArray w (λe w'=>e= .returned (.string (bs (oi s)))∧Ext [] w w'):=by
 refine aV func45 ntmps45 ?_;refine aC ?_;refine b2 (ι:=List UInt8) (λt=>[(0,.string (bs t))]) (λ_=>af w [] []) (λt=>t.length≤s.length∧oi t=oi s) (λt=>t.length) ?_ ?_;exact λw' c=>⟨s,⟨bW _,rfl⟩,(uA rfl),c⟩
 rintro t ⟨g,b⟩;refine aS ?_;refine ao rfl Nf rfl (λw' _=>Yq w' t [10] aa aZ) ?_;refine aq ?_;refine aj (λa=>?_) (λa=>?_);have i:0<t.length:=by
  cases t with
  | nil=>exact absurd a aZ
  | cons _ _=>exact Nat.succ_pos _
 refine aC ?_;refine gS (r:=((t.length - 1 :Nat):Int)) rfl rfl rfl (by rw[wrap64 aa aa];omega) ?_;refine pJ (t.length - 1) underlying9 rfl rfl rfl bc aa ?_;refine ah ?_;exact bi (t.take (t.length - 1)) ⟨by rw[dl];omega,by rw[Yo (bX a),b]⟩ (by rw[dl];omega) bR (λ_ h=>h);rw[←b,Yp (cg a)];refine bH ?_;intro j d;exact⟨rfl,d.ext⟩
end Go.Proofs.YtlgnfdodnhokjaaGreatDoor.Mq
namespace Go.Proofs.YtlgnfdodnhokjaaGreatDoor.Mq
open Go Go.RowKit Go.Proofs Go.MapKept
section
def pw (es:Array MapEntry):Prop:= ∀x∈es.toList,∃k v:Int,x.key= .int .u64 k∧k≠0∧x.val= .int .i64 v
theorem pw.key {es:Array MapEntry} (h:pw es): ∀x∈es.toList,IsKey (.int .u64) x.key:=λx a=>by
 obtain⟨k,v,b,_⟩:=h x a;rw[b];exact rfl
def k0 (g:Nat) (es:Array MapEntry) (ck:Nat):Chunk where
 ch:=[g]
 pred w:=w.heap[g]? = some (.map es ck)
 low w h k a:=by
  simp only[eb] at a
  subst a
  exact (lH.1 h).1
 loc w w' h ai:=by rw[h g av];exact ai
def foldI (es:Array MapEntry) (k:Int):Int:=match Instr.findNow (.int .u64) (.int .u64 k) es.toList 0 with | some (some (_,.int .i64 v))=>v | _=>0
theorem Ys {es:Array MapEntry} (h:pw es):foldI es 0=0:=by
 unfold foldI;rcases findNow_spec (d:= .int .u64) (k:= .int .u64 0) rfl es.toList 0 h.key with ⟨b,_⟩ | ⟨j,e,b,c,a⟩
 rw[b];obtain⟨k,v,f,g,_⟩:=h e (da c);rw[f] at a
 injection a with _ a
 exact absurd a g
section
variable {P:Program} {n:Nat} {ops:Array Oper} {Q:cq} {rest:List Oper} {l:Fr} {d:Nat} {ty:TypeId} {pos:String} {a7:Array Edge}
variable {b:World} {S:List Nat} {cs:List Chunk}
theorem Yt {H:World→Prop} {x y:Operand} {mt f m:TypeId} {g ck:Nat} {es:Array MapEntry} {k:Int} (o:P.underlying mt=some (.map f m)) (b:P.underlying f=some (.int .u64)) (u:cL P m (.int .i64 0)) (p:pw es) (ak:Nat.blt d n=true)
 (q:ba l x=some (.map (some g))) (r:ba l y=some (.int .u64 k)) (s: ∀w,H w→w.heap[g]? = some (.map es ck))
 (h:az P n ops Q rest ((d,.int .i64 (foldI es k))::l) H):az P n ops Q (⟨some d,.lookup mt x y false,ty,pos,a7,none⟩::rest) l H:=by
 obtain⟨i,z,A,_⟩:=u.inf;refine sm _ ak (λD w c t=>?_) h;rcases findNow_spec (d:= .int .u64) (k:= .int .u64 k) rfl es.toList 0 p.key with ⟨a,_⟩ | ⟨j,e,a,B,E⟩
 simp[execOp,c x _ q,c y _ r,Instr.lookup,run_underlying o,MapKept.run_getObj_map (s w t),MapKept.run_checkKey (k:= .int .u64 k) b rfl,MapKept.run_findKey b a,sl z A,Result.andThen,foldI,a]
 obtain⟨F,v,G,I,C⟩:=p e (da B);simp[execOp,c x _ q,c y _ r,Instr.lookup,run_underlying o,MapKept.run_getObj_map (s w t),MapKept.run_checkKey (k:= .int .u64 k) b rfl,MapKept.run_findKey b a,Result.andThen,foldI,a,C]
theorem af.y6 {w:World} (h:af b S cs w) {g ck a:Nat} {es c:Array MapEntry} {cs':List Chunk} (d:bn cs (k0 g es ck) (k0 g c a) cs'):af b S cs' { w with heap:=w.heap.setIfInBounds g (.map c a) }:=by
 have f:w.heap[g]? = some (.map es ck):=h.has d.has
 have e:=heap_set (o':= .map c a) f
 exact h.ie d ⟨rfl,rfl,rfl,by simp,λk _ i=>e.2 k (by simpa [k0] using i)⟩ e.1 (by simp[k0]) (by simp[k0])
theorem K0 {x y z:Operand} {mt A F:TypeId} {g ck:Nat} {es:Array MapEntry} {k v:Int} {cs':Array MapEntry→Nat→List Chunk} (B:P.underlying mt=some (.map A F)) (i:P.underlying A=some (.int .u64)) (p:pw es) (C:k≠0)
 (a:ba l x=some (.map (some g))) (D:ba l y=some (.int .u64 k)) (E:ba l z=some (.int .i64 v)) (r: ∀f m,bn cs (k0 g es ck) (k0 g f m) (cs' f m))
 (h: ∀f m,pw f→az P n ops Q rest l (af b S (cs' f m))):az P n ops Q (⟨none,.mapUpdate mt x y z,ty,pos,a7,none⟩::rest) l (af b S cs):=by
 refine uB λJ w c s=>?_
 have o:w.heap[g]? = some (.map es ck):=s.has (r es ck).has
 rcases findNow_spec (d:= .int .u64) (k:= .int .u64 k) rfl es.toList 0 p.key with ⟨t,_⟩ | ⟨j,e,t,G,H⟩
 refine⟨_,?_,(h (es.push ⟨.int .u64 k,.int .i64 v,ck⟩) (ck+1) (λx a=>?_)).at (s.y6 (r _ _))⟩;simp[execOp,c x _ a,c y _ D,c z _ E,Instr.mapUpdate,run_underlying B,MapKept.run_getObj_map o,MapKept.run_checkKey (k:= .int .u64 k) i rfl,MapKept.run_findKey i t,MapKept.run_setObj_map _ o,Result.andThen]
 simp only[Array.toList_push,cZ,eb] at a
 rcases a with a | rfl
 exact p x a;exact⟨k,v,rfl,C,rfl⟩;have I:es[j]? = some e:=by simpa using G
 refine⟨_,?_,(h (es.modify j λe=>{ e with key:= .int .u64 k,val:= .int .i64 v }) ck (λx a=>?_)).at (s.y6 (r _ _))⟩;simp[execOp,c x _ a,c y _ D,c z _ E,Instr.mapUpdate,run_underlying B,MapKept.run_getObj_map o,MapKept.run_checkKey (k:= .int .u64 k) i rfl,MapKept.run_findKey i t,I,H,run_keyThatStays (d:= .int .u64) (k:= .int .u64 k) rfl,MapKept.run_setObj_map _ o,Result.andThen]
 obtain⟨q,u⟩:=List.mem_iff_getElem?.1 a;rw[Array.getElem?_toList,qG] at u
 split at u
 obtain⟨K,_,rfl⟩:=Option.map_eq_some_iff.1 u;exact⟨k,v,rfl,C,rfl⟩;exact p x (da (by rwa [Array.getElem?_toList]))
theorem K1 {x y:Operand} {mt p z:TypeId} {g ck:Nat} {es:Array MapEntry} {k:Int} {cs':Array MapEntry→Nat→List Chunk} (u:P.underlying mt=some (.map p z)) (c:P.underlying p=some (.int .u64)) (q:pw es)
 (f:ba l x=some (.map (some g))) (v:ba l y=some (.int .u64 k)) (r: ∀a i,bn cs (k0 g es ck) (k0 g a i) (cs' a i))
 (h: ∀a i,pw a→az P n ops Q rest l (af b S (cs' a i))):az P n ops Q (⟨none,.call ⟨.builtin .delete,#[x,y],#[mt,p]⟩,ty,pos,a7,none⟩::rest) l (af b S cs):=by
 refine FW λB w m s=>?_
 have o:w.heap[g]? = some (.map es ck):=s.has (r es ck).has
 rcases findNow_spec (d:= .int .u64) (k:= .int .u64 k) rfl es.toList 0 q.key with ⟨t,_⟩ | ⟨j,e,t,C,D⟩
 refine⟨.tuple #[],_,?_,(h es ck q).at (s.y6 (r _ _))⟩;simp[execOp,resolve,invoke,builtin,m x _ f,m y _ v,Builtin.delete_,run_underlying u,MapKept.run_getObj_map o,MapKept.run_checkKey (k:= .int .u64 k) c rfl,MapKept.run_findKey c t,MapKept.run_setObj_map _ o,Result.andThen]
 refine⟨.tuple #[],_,?_,(h (es.eraseIdxIfInBounds j) ck (λx f=>q x ?_)).at (s.y6 (r _ _))⟩;simp[execOp,resolve,invoke,builtin,m x _ f,m y _ v,Builtin.delete_,run_underlying u,MapKept.run_getObj_map o,MapKept.run_checkKey (k:= .int .u64 k) c rfl,MapKept.run_findKey c t,MapKept.run_setObj_map _ o,Result.andThen]
 have A: (es.eraseIdxIfInBounds j).toList.Sublist es.toList:=by
  unfold Array.eraseIdxIfInBounds;split
  simp only[Array.toList_eraseIdx];exact List.eraseIdx_sublist _ _
  exact List.Sublist.refl _
 exact A.subset f
theorem Yu {t:TypeId} (ak:Nat.blt d n=true) (h: ∀g,b.heap.size≤g→(∀k∈aB cs,k<g)→az P n ops Q rest ((d,.map (some g))::l) (af b S (k0 g #[] 0::cs))):
 az P n ops Q (⟨some d,.makeMap t none,ty,pos,a7,none⟩::rest) l (af b S cs):=by
 refine hD ak λe w f a=>⟨.map (some w.heap.size),w.alloc (.map #[] 0),?_,(h w.heap.size a.ext.size (λk c=>a.lt c)).at (a.add (Ext.alloc _ _ _) (heap_alloc w _).1 (by simp[k0]) (by simp[k0]))⟩
 simp[execOp,Instr.makeMap,Result.andThen]
end
end
end Go.Proofs.YtlgnfdodnhokjaaGreatDoor.Mq
namespace Go.Proofs.YtlgnfdodnhokjaaGreatDoor.Mq
open Go Go.RowKit Go.Proofs Tryz
section
structure bV where
 g:Nat
 top:Int
 dm:Bool
 cb:Nat
 p:ce
 T:bL
 st:cO
 cY:hz
 dq:Nat
 es:Array MapEntry
 ck:Nat
abbrev ud (s:bV):List Value:=[.int .i64 s.top,.bool s.dm,ptr s.cb,ptr s.st.g,ptr s.cY.g,.map (some s.dq)]
abbrev bV.an (s:bV):Chunk:=aD s.g (ud s) 100
abbrev cW [Inhabited bO] (s:bV):List Chunk:=[s.an,aR (fo s.p s.cb s.p.g s.T),aR (cV s.st),aR (gb s.cY),k0 s.dq s.es s.ck]
abbrev bV.ap (s:bV):bq:=(firstT s.T).ap
def bV.rows (s:bV):Int:=s.ap.r.n+(s.ap.s.l.length:Int)
structure cQ (s:bV) (m:Nat) (N:Int):Prop where
 par:fN s.p
 T:cp s.cb s.ap.r.room m s.T
 st:fP s.st N
 cY:rO s.cY
 mp:pw s.es
 top:0≤s.top∧s.top≤1000000
theorem cp.first {g:Nat} {R:Int} {m:Nat} {t:bL} (h:cp g R m t):dU (firstT t):=by
 unfold firstT;split
 exact h.bk;exact h.am
theorem cQ.small [Inhabited bO] {s:bV} {m:Nat} {N:Int} (h:cQ s m N):s.ap.s.l.length≤100∧s.ap.cols≤100∧s.ap.r.room≤100:=h.T.first.small
theorem cQ.ring [Inhabited bO] {s:bV} {m:Nat} {N:Int} (h:cQ s m N):0≤s.ap.r.n∧s.ap.r.n≤100:=by
 have a:cX s.ap.r:=h.T.first.g.r
 have b:=a.n
 have c:=a.len
 have d:=h.small
 exact⟨b.1,aa⟩
section
variable {w:World} {s:bV}
theorem qD [Inhabited bO] (h: (aR (cW s)).pred w):s.an.pred w:=h _ av
theorem y7 [Inhabited bO] (h: (aR (cW s)).pred w): (aR (fo s.p s.cb s.p.g s.T)).pred w:=h _ av
theorem Dm [Inhabited bO] (h: (aR (cW s)).pred w): (aR (cV s.st)).pred w:=h _ av
theorem y8 [Inhabited bO] (h: (aR (cW s)).pred w): (eN s.cb s.p.g s.T).pred w:=y7 h _ av
theorem Dn [Inhabited bO] (h: (aR (cW s)).pred w): (aR (aO (firstT s.T))).pred w:=by
 unfold firstT;split
 exact y7 h _ av;exact y7 h _ av
theorem y9 [Inhabited bO] (h: (aR (cW s)).pred w): (firstT s.T).an.pred w:=Dn h _ av
theorem Do [Inhabited bO] (h: (aR (cW s)).pred w):s.ap.an.pred w:=Dn h _ av
theorem Yv [Inhabited bO] (h: (aR (cW s)).pred w):s.ap.r.an.pred w:=((Dn h _ av: (aR (cc s.ap.r)).pred w)) _ av
theorem Yw [Inhabited bO] (h: (aR (cW s)).pred w): (k0 s.dq s.es s.ck).pred w:=h _ av
end
theorem Dp [Inhabited bO] (w:World) (s:bV) (a: (aR (cW s)).pred w):Calls prog 23 [ptr s.g].toArray w (Pure (ptr s.cb) w):=by
 have b:=qD a
 refine aV func23 ntmps23 ?_;refine hq ?_;refine a_ Eb rfl rfl (λe c=>c.bU b (by (simp;done)) rfl) ?_;refine ay ?_;intro f d;exact⟨rfl,d.ext⟩
theorem Yx [Inhabited bO] (w:World) (s:bV) (c: (aR (cW s)).pred w):Calls prog 149 [ptr s.g].toArray w (Pure (.int .i64 (s.ap.s.l.length:Int)) w):=by
 have d:=qD c
 refine aV func149 ntmps149 ?_;refine aQ ?_;refine a_ Eb rfl rfl (λh e=>e.bU d (by (simp;done)) rfl) ?_;refine ao rfl pM rfl (λa b=>qp a s.cb s.p.g s.T (y8 (Chunk.dJ _ c b.ext))) ?_;refine ao rfl kw rfl (λa b=>kI a (firstT s.T) (y9 (Chunk.dJ _ c b.ext))) ?_;refine ao rfl q6 rfl (λa b=>ri a s.ap (Do (Chunk.dJ _ c b.ext))) ?_;refine ay ?_;intro i f;exact⟨rfl,f.ext⟩
theorem Dq [Inhabited bO] (w:World) (s:bV) {m:Nat} {N:Int} (d:cQ s m N) (c: (aR (cW s)).pred w):Calls prog 59 [ptr s.g].toArray w (Pure (.int .i64 s.rows) w):=by
 have f:=qD c
 have h:=d.small
 have i:=d.ring
 refine aV func59 ntmps59 ?_;refine aK ?_;refine ao rfl zK rfl (λb a=>Dp b s (Chunk.dJ _ c a.ext)) ?_;refine ao rfl pM rfl (λb a=>qp b s.cb s.p.g s.T (y8 (Chunk.dJ _ c a.ext))) ?_;refine ao rfl kw rfl (λb a=>kI b (firstT s.T) (y9 (Chunk.dJ _ c a.ext))) ?_;refine al ?_;refine ao rfl oL rfl (λb a=>oX b s.ap (Do (Chunk.dJ _ c a.ext)) (Yv (Chunk.dJ _ c a.ext))) ?_;refine ar ?_;refine ao rfl q6 rfl (λb a=>ri b s.ap (Do (Chunk.dJ _ c a.ext))) ?_;refine al ?_;intro j e;exact⟨rfl,e.ext⟩
theorem y_ [Inhabited bO] (w:World) (s:bV) {m:Nat} {N:Int} (a:cQ s m N) (b: (aR (cW s)).pred w):Calls prog 27 [ptr s.g].toArray w (Pure (d_ ⟨s.rows,0⟩) w):=by
 refine aV func27 ntmps27 ?_;refine ah ?_;intro f h i;refine ay ?_;refine ao rfl zO rfl (λc d=>Dq c s a (Chunk.dJ _ b d.ext)) ?_;refine al ?_;intro j e;exact⟨rfl,e.ext⟩
def bV.most (s:bV) (n:Nat):Int:=max 0 ((n:Int) - (s.ap.s.l.length:Int))
theorem za [Inhabited bO] (w:World) (s:bV) {m:Nat} {N:Int} (a:cQ s m N) (b: (aR (cW s)).pred w) (A:Option Addr) (n c:Nat) (h:n≤1000000):Calls prog 95 [ptr s.g,.slice A n c].toArray w (Pure (.int .i64 (s.most n)) w):=by
 have i:=a.small
 refine aV func95 ntmps95 ?_;refine aQ ?_;refine ao rfl NL rfl (λd e=>Yx d s (Chunk.dJ _ b e.ext)) ?_;refine aC ?_;intro j f;exact⟨rfl,f.ext⟩
theorem K2 [Inhabited bO] (w:World) (s:bV) {m:Nat} {N:Int} (a:cQ s m N) (b: (aR (cW s)).pred w) (A:Option Addr) (n c:Nat) (h:n≤1000000):Calls prog 56 [ptr s.g,.slice A n c].toArray w (ca (λr:Int=> .int .i64 r) (λr=>0≤r∧r≤s.most n) w):=by
 have i:=qD b
 have q:=a.small
 have t:0≤s.most n:=by unfold bV.most;omega
 refine aV func56 ntmps56 ?_;refine bx ?_;refine a_ oI rfl rfl (λu j=>j.bU i (by (simp;done)) rfl) ?_;refine aq ?_;refine b1 rfl (λk=>?_) (λk=>?_);refine aS ?_;refine ao rfl wX rfl (λd e=>za d s a (Chunk.dJ _ b e.ext) A n c h) ?_;refine al ?_;intro l f;exact aP.bQ _ aa rfl (by simpa [aB] using f);refine ah ?_;refine bF [0,1,2,3,4,5,6] 1 [[(7,false,[8,9,10])]] ?_;refine aS ?_;refine aL rfl (λv o=>(a_ bN rfl rfl (λx p=>by subst p;exact o.bU i (by (simp;done)) rfl) aG)) ?_;refine aS ?_;refine ao rfl wX rfl (λd e=>za d s a (Chunk.dJ _ b e.ext) A n c h) ?_;refine aJ ?_;intro l f;exact aP.bQ _ aa rfl (by simpa [aB] using f)
end
section
def bV.jV (s:bV):List fd:=lD s.st.abs ⟨s.rows,0⟩
theorem cQ.jV [Inhabited bO] {s:bV} {m:Nat} {N:Int} (h:cQ s m N):s.jV.length≤10001∧ ∀b∈s.jV,qA b:=by
 have a:=h.st.len
 have c:=h.ring
 have d:=h.small
 refine⟨?_,WV h.st.wf ⟨⟨?_,?_⟩,?_,?_⟩⟩;rw[bV.jV,Ke];simp only[cO.abs,cB];omega
 simp only[bV.rows];omega
 simp only[bV.rows];omega
 exact iB 0;exact (by decide: (0 :Int)≤4398046511104)
section
variable {w:World} {s:bV}
theorem K3 [Inhabited bO] (h: (aR (cW s)).pred w):s.st.an.pred w:=Dm h _ av
theorem K4 [Inhabited bO] (h: (aR (cW s)).pred w): (et s.st.A s.st.c s.st.l).pred w:=Dm h _ av
theorem K5 [Inhabited bO] (h: (aR (cW s)).pred w): (eW s.st.l).pred w:=Dm h _ av
end
theorem Dr [Inhabited bO] (w:World) (s:bV) {m:Nat} {N:Int} (c:cQ s m N) (a: (aR (cW s)).pred w):Calls prog 17 [ptr s.g].toArray w (aP (λz:rS=>z.val) [] (λz=>[z.au]) (λz=>z.l=s.jV) w):=by
 have e:=qD a
 have k:=c.st.len
 refine aV func17 ntmps17 ?_;refine dB ?_;refine bF [0,1,2,3,4] 2 [[(5,false,[]),(6,true,[7])]] ?_;refine ah ?_;refine aL rfl (λn f=>(a_ Ec rfl rfl (λo h=>by subst h;exact f.bU e (by (simp;done)) rfl) aG)) ?_;refine ah ?_;refine ao rfl wU rfl (λd b=>y_ d s c (Chunk.dJ _ a b.ext)) ?_;refine ah ?_;refine a6 (l0:=[]) aA.nil rfl Eu rfl (λd b=>KA d s.st (Chunk.dJ _ (K3 a) b.ext) (Chunk.dJ _ (K4 a) b.ext) (Chunk.dJ _ (K5 a) b.ext) c.st.br aa ⟨s.rows,0⟩) (λz i=>?_);refine aC ?_;intro p j;exact aN z i j
theorem ue [Inhabited bO] (w:World) (s:bV) {m:Nat} {N:Int} (c:cQ s m N) (a: (aR (cW s)).pred w) (id:Int):Calls prog 28 [ptr s.g,.int .u64 id].toArray w (Pure (rU (kl s.st.abs id ⟨s.rows,0⟩)) w):=by
 have f:=qD a
 have l:=c.st.len
 have h: ∃v:fd,∃o:Bool,rU (kl s.st.abs id ⟨s.rows,0⟩)= .tuple #[.agg v.enc.toArray,.bool o]:=by
  cases kl s.st.abs id ⟨s.rows,0⟩ with
  | none=>exact⟨_,_,rfl⟩
  | some v=>exact⟨v,true,rfl⟩
 obtain⟨v,o,e⟩:=h;rw[e];refine aV func28 ntmps28 ?_;refine ah ?_;intro n p q;refine b7 ?_;refine bF [0,1,2,3,4,5] 3 [[(6,false,[]),(7,false,[8,9]),(10,true,[11])]] ?_;refine ah ?_;refine aL rfl (λr i=>(a_ Ec rfl rfl (λt j=>by subst j;exact i.bU f (by (simp;done)) rfl) aG)) ?_;refine aS ?_;refine ao rfl wU rfl (λd b=>y_ d s c (Chunk.dJ _ a b.ext)) ?_;refine ah ?_;refine ao rfl M7 rfl (λd b=>e▸XC d s.st (Chunk.dJ _ (K3 a) b.ext) (Chunk.dJ _ (K4 a) b.ext) (Chunk.dJ _ (K5 a) b.ext) c.st.br aa id ⟨s.rows,0⟩) ?_;refine ay ?_;refine e3 (vs:=v.enc) gz rfl rfl (bn.whole cA bc) rfl (aI.cons rfl (aI.cons rfl (aI.cons rfl (aI.cons rfl (aI.cons rfl (aI.cons rfl (aI.cons rfl (gg rfl rfl rfl rfl rfl rfl rfl rfl rfl rfl)))))))) (by exact dV rfl) ?_;refine al ?_;refine ik results28 (cy.eX gz rfl aT rfl rfl) (cy.tmp rfl) (λu k=>?_);exact⟨rfl,k.ext⟩
def rX (es:Array MapEntry) (b:fd):Option hh:=if foldI es b.id=0 then none else some ⟨if b.output.cM>0 then b.output.row+1 else b.output.row,b.done.row,b.id⟩
def rY (es:Array MapEntry) (l:List fd):List hh:=l.filterMap (rX es)
theorem Yy (es:Array MapEntry) {l:List fd} {i:Nat} {b:fd} (h:l[i]? = some b):rY es (l.take (i+1))=rY es (l.take i)++(rX es b).toList:=by
 unfold rY;rw[fR,h,List.filterMap_append];cases a:rX es b <;> simp[a]
theorem K6 (es:Array MapEntry) (l:List fd): (rY es l).length≤l.length:=List.length_filterMap_le _ _
def bV.fds (s:bV):List hh:=ic s.rows 0 (rY s.es s.jV)
theorem Yz [Inhabited bO] (w:World) (s:bV) {m:Nat} {N:Int} (d:cQ s m N) (e: (aR (cW s)).pred w):Calls prog 94 [ptr s.g].toArray w (aP (λz:og=>z.val) [] (λz=>[z.au]) (λz=>z.l=s.fds) w):=by
 have F:=qD e
 have D:=d.jV
 refine aV func94 ntmps94 ?_;refine b7 ?_;refine a6 (l0:=[]) aA.nil rfl zJ rfl (λa b=>Dr a s d (Chunk.dJ _ e b.ext)) (λz p=>?_);refine aS ?_;have T:z.l.length≤10001:=p▸D.1
 refine cH (H':=af w [] [og.au ⟨none,0,[]⟩,z.au]) ?_ (Sub.refl _) (λx G=>G.eU 256 mv);refine ar ?_;refine b2 (ι:=Nat × og) (λt=>[(0,ptr s.g),(3,t.2.val),(8,z.val),(9,.int .i64 (z.l.length:Int)),(10,.int .i64 (t.1 :Int))]) (λt=>af w [] [t.2.au,z.au]) (λt=>t.1≤z.l.length∧t.2.l=rY s.es (z.l.take t.1)) (λt=>z.l.length - t.1) ?_ ?_;exact λw' H=>⟨(0,⟨none,0,[]⟩),⟨bP _,rfl⟩,(ec rfl rfl rfl rfl rfl),H.ax ae⟩
 rintro⟨i,y⟩ ⟨hi,f⟩;dsimp only at hi f ⊢
 have U:y.l.length≤i:=by
  have:=K6 s.es (z.l.take i)
  rw[dl] at this
  rw[f];omega
 refine al ?_;refine aj (λI=>?_) (λI=>?_);obtain⟨v,r⟩ : ∃v,z.l[i]? = some v:=⟨_,bE aa⟩;have V:=(D.2 v (p▸da r)).output
 have n:=Yy s.es r
 rw[←f] at n
 refine al ?_;refine jr (E:=jU) bJ mJ rfl rfl rfl bc aa (λW J=>?_);refine cx (vs:=v.enc) gz rfl rfl rfl (λX K j u L=>K.gJ (E:=jU) bJ J r j u L) ?_;refine ar ?_;intro Y Z Za;refine e3 (vs:=v.enc) gz rfl rfl (bn.whole cA bc) rfl (aI.cons rfl (aI.cons rfl (aI.cons rfl (aI.cons rfl (aI.cons rfl (aI.cons rfl (aI.cons rfl (gg rfl rfl rfl rfl rfl rfl rfl rfl rfl rfl)))))))) (by exact dV rfl) ?_;refine aS ?_;refine bF [0,1,2,3,4,5] 1 [[(6,false,[7])]] ?_;refine ah ?_;refine aL rfl (λZb B=>(a_ Mp rfl rfl (λM C=>by subst C;exact B.bU F (by (simp;done)) rfl) aG)) ?_;refine aS ?_;refine Yt (es:=s.es) (ck:=s.ck) (k:=v.id) underlying98 underlying54 bN d.mp rfl rfl rfl (λM C=>by exact Chunk.dJ _ (Yw e) C.ext) ?_;refine ay ?_;refine aj (λo=>?_) (λo=>?_);refine aK ?_;exact bi (i+1,y) ⟨aa,by dsimp only;rw[n,rX,aw o];simp⟩ bm bR (λ_ h=>h.ax ae);refine eL ?_;refine aj (λO=>?_) (λO=>?_);refine cF ?_;refine dy (E:=mv) ⟨_,_,_⟩ oJ rfl rfl rfl rfl rfl (λP Q R=>?_);refine eC (E:=mv) oJ rfl rfl rfl bj (λ_ _=>ew) b4 b4 (λZc Zd=>?_);refine aK ?_;exact bi (i+1,⟨_,_,y.l++[⟨_,v.done.row,v.id⟩]⟩) ⟨aa,by dsimp only;rw[n,rX,ag o];rw[aw aa];rfl⟩ bm (ec rfl rfl rfl rfl rfl) (λ_ h=>h.ax ae);refine bp ?_;refine dy (E:=mv) ⟨_,_,_⟩ oJ rfl rfl rfl rfl rfl (λP Q R=>?_);refine eC (E:=mv) oJ rfl rfl rfl bj (λ_ _=>ew) b4 b4 (λZe Zf=>?_);refine aK ?_;exact bi (i+1,⟨_,_,y.l++[⟨_,v.done.row,v.id⟩]⟩) ⟨aa,by dsimp only;rw[n,rX,ag o];rw[ag aa];rfl⟩ bm (ec rfl rfl rfl rfl rfl) (λ_ h=>h.ax ae);refine aK ?_;refine ao rfl zO rfl (λa b=>Dq a s d (Chunk.dJ _ e b.ext)) ?_;refine ar ?_;refine a6 (l0:=[]) aA.nil rfl NK rfl (λa b=>XI a _ y.A y.l.length y.c y.l (hv (b.has (c:=y.au) aT)) aa s.rows) (λq B=>?_);refine ay ?_;intro Zg S;exact aN q (by rw[B,f,ev aa,p];rfl) S
end
def bV.rZ (s:bV):List jz:=nd s.rows 0 s.fds
theorem K7: ∀(l:List jz) (a b:Int),kZ a l b→a≤b∧ ∀x∈l,a≤x.row∧0≤x.hid∧x.row+max 1 x.hid≤b
 | [],a,b,h=>⟨by unfold kZ at h;omega,by simp⟩
 | x::l,a,b,h=>by
  obtain⟨f,g,i,d⟩:=h;obtain⟨j,e⟩:=K7 l _ b d;refine⟨aa,λy c=>?_⟩;rcases e1.1 c with rfl | c
  omega
  have:=e y c
  omega
theorem cQ.rw[Inhabited bO] {s:bV} {m:Nat} {N:Int} (h:cQ s m N):0≤s.rows∧s.rows≤200:=by
 have a:=h.ring
 have b:=h.small
 unfold bV.rows;omega
theorem cQ.hS {s:bV} {m:Nat} {N:Int} (h:cQ s m N): ∀f∈s.fds,f.id≠0:=λf d=>by
 obtain⟨g,i,e,_⟩:=De _ _ _ f d;obtain⟨b,_,a⟩:=List.mem_filterMap.1 i;unfold rX at a
 split at a
 cases a
 rename_i j;injection a with a
 subst a;intro c;rw[e] at c
 exact j (by dsimp only at c;rw[c];exact Ys h.mp)
theorem cQ.right {s:bV}:fG s.rows 0 s.fds=true:=Dd _ _ _
theorem cQ.kZ [Inhabited bO] {s:bV} {m:Nat} {N:Int} (h:cQ s m N):kZ 0 s.rZ s.rows:=KB _ _ _ h.rw.1 cQ.right h.hS
theorem Ds (rows:Int): ∀(l:List hh) (e:Int),(ic rows e l).length≤l.length
 | [],_=>bW _
 | f::l,e=>by
  unfold ic;split
  have:=Ds rows l (min f.b rows)
  simp only[eO];omega
  have:=Ds rows l e
  simp only[eO];omega
theorem cQ.YA [Inhabited bO] {s:bV} {m:Nat} {N:Int} (h:cQ s m N):s.fds.length≤10001:=by
 have a:=Ds s.rows (rY s.es s.jV) 0
 have b:=K6 s.es s.jV
 have c:=h.jV.1
 unfold bV.fds;omega
theorem cQ.K8 [Inhabited bO] {s:bV} {m:Nat} {N:Int} (h:cQ s m N):s.rZ.length≤200:=by
 have a:=KC s.rows s.fds 0 h.rw.1 cQ.right
 have b:=h.rw
 unfold bV.rZ;omega
theorem cQ.YB [Inhabited bO] {s:bV} {m:Nat} {N:Int} (h:cQ s m N): ∀x∈s.rZ,t_ x:=λx a=>by
 have b:=(K7 _ _ _ h.kZ).2 x a
 have c:=h.rw
 unfold t_;omega
theorem K9 [Inhabited bO] (w:World) (s:bV) {m:Nat} {N:Int} (d:cQ s m N) (e: (aR (cW s)).pred w):Calls prog 54 [ptr s.g].toArray w (aP (λz:ne=>z.val) [] (λz=>[z.au]) (λz=>z.l=s.rZ) w):=by
 have j:=qD e
 have k:=d.rw
 have n:=d.YA
 refine aV func54 ntmps54 ?_;refine eR ?_;refine ao rfl zO rfl (λa b=>Dq a s d (Chunk.dJ _ e b.ext)) ?_;refine ar ?_;refine a6 (l0:=[]) aA.nil rfl Nl rfl (λa b=>Yz a s d (Chunk.dJ _ e b.ext)) (λy f=>?_);refine a6 (l0:=[]) aA.nil rfl Nk rfl (λa b=>XL a _ y.A y.l.length y.c y.l (hv (b.has (c:=y.au) aT)) (by rw[f];omega) s.rows aa (by rw[f];exact cQ.right)) (λz h=>?_);refine cF ?_;intro o i;exact aN z (by rw[h,f];rfl) i
abbrev cn [Inhabited bO] (s:bV):Chunk:=aR (cW s)
theorem YC {s:bl} (h:dU s): (∀x∈s.ap.r.rows,x.1.length≤1000000)∧ ∀x∈b5 s.ap.s.l,x.1.length≤1000000:=by
 have ai:c7 s.ap.abs:=h.ok.bD
 refine⟨λx a=>?_,λx a=>?_⟩;have:=(ai.nM x a).1
 have:=ai.cols
 omega
 have:=(ai.wide x a).1
 have:=ai.cols
 omega
theorem Dt [Inhabited bO] (w:World) (s:bV) {m:Nat} {N:Int} (k:cQ s m N) (i:a8 w [cn s]):Calls prog 8 [ptr s.g].toArray w (aP (λz:de=>z.val) [cn s] (λz=>[cn s,z.au,z.b9]) (λz=>b5 z.l=s.ap.r.rows++b5 s.ap.s.l) w):=by
 have o: (aR (cW s)).pred w:=i.all _ av
 have d:=k.T.first
 have e:=YC d
 have j:=d.small
 have c: ∀a,(af w (aB [cn s]) [cn s] a)→(aR (cW s)).pred a:=λa b=>b.all _ av
 refine bI func8 ntmps8 i ?_;obtain⟨g,top,dm,cb,p,⟨am,bk,use,b8,cm,bM,buf,aF⟩,st,cY,dq,es,ck⟩:=s;cases use
 refine aK ?_;refine ao rfl zK rfl (λa b=>Dp a _ (c a b)) ?_;refine ao rfl pM rfl (λa b=>qp a _ _ _ (y8 (c a b))) ?_;refine ao rfl kw rfl (λa b=>kI a _ (y9 (c a b))) ?_;refine ld (lc:=cW ⟨g,top,dm,cb,p,⟨am,bk,false,b8,cm,bM,buf,aF⟩,st,cY,dq,es,ck⟩) bj<| ld (lc:=fo p cb p.g ⟨am,bk,false,b8,cm,bM,buf,aF⟩) cw<| ld (lc:=aO am) p0<| a6 (l0:=bB am.ap) ae rfl zL rfl (λa b=>B7 a am.ap (b.bo ae) d.g.r e.1 e.2 (by have:am.ap.s.l.length≤100:=j.1;omega)) (λz f=>?_)
 refine ay ?_;intro n h;exact aP.bQ z f rfl ((((h.close (l:=aO am) ae).close (l:=fo p cb p.g ⟨am,bk,false,b8,cm,bM,buf,aF⟩) ae).close (l:=cW ⟨g,top,dm,cb,p,⟨am,bk,false,b8,cm,bM,buf,aF⟩,st,cY,dq,es,ck⟩) ae).ax ae);refine aK ?_;refine ao rfl zK rfl (λa b=>Dp a _ (c a b)) ?_;refine ao rfl pM rfl (λa b=>qp a _ _ _ (y8 (c a b))) ?_;refine ao rfl kw rfl (λa b=>kI a _ (y9 (c a b))) ?_;refine ld (lc:=cW ⟨g,top,dm,cb,p,⟨am,bk,true,b8,cm,bM,buf,aF⟩,st,cY,dq,es,ck⟩) bj<| ld (lc:=fo p cb p.g ⟨am,bk,true,b8,cm,bM,buf,aF⟩) cw<| ld (lc:=aO bk) oO<| a6 (l0:=bB bk.ap) ae rfl zL rfl (λa b=>B7 a bk.ap (b.bo ae) d.g.r e.1 e.2 (by have:bk.ap.s.l.length≤100:=j.1;omega)) (λz f=>?_)
 refine ay ?_;intro n h;exact aP.bQ z f rfl ((((h.close (l:=aO bk) ae).close (l:=fo p cb p.g ⟨am,bk,true,b8,cm,bM,buf,aF⟩) ae).close (l:=cW ⟨g,top,dm,cb,p,⟨am,bk,true,b8,cm,bM,buf,aF⟩,st,cY,dq,es,ck⟩) ae).ax ae)
def wv [Inhabited bO] (s:bV) (m:Nat) (N:Int) {ι:Type} (v:ι→Value) (w:World):Ending→World→Prop:=aP (λi:ι × bV=>v i.1) [cn s] (λi=>[cn i.2]) (λi=>i.2.g=s.g∧cQ i.2 m N) w
theorem cQ.K_ {s:bV} {m:Nat} {N:Int} (h:cQ s m N) {t:Int} (f:Bool) (a:0≤t∧t≤1000000):cQ { s with top:=t,dm:=f } m N:=⟨h.par,h.T,h.st,h.cY,h.mp,a⟩
theorem La [Inhabited bO] (w:World) (s:bV) {m:Nat} {N:Int} (a:cQ s m N) (f:a8 w [cn s]) (A:Option Addr) (n c:Nat) (e:n≤1000000) (y:Int):Calls prog 55 [ptr s.g,.slice A n c,.int .i64 y].toArray w (wv s m N (λ_:Unit=> .tuple #[]) w):=by
 have o:=a.small
 have p:0≤s.most n∧s.most n≤1000000:=by unfold bV.most;omega
 have i:=a.K_ s.dm (t:=max 0 (min y (s.most n))) aa
 refine calls (n:=29) func55 rfl ntmps55 rfl ?_;refine cH (H':=af w (aB [cn s]) (cW s)) ?_ (Sub.refl _) (λx j=>by have h:=(f.start x j).open (l:=cW s) bj;rwa [eu] at h);refine al ?_;refine ao rfl wX rfl (λb d=>za b s a d.all A n c e) ?_;refine aK ?_;refine bF [0,1,2,3,4,5,6,7] 2 [[(8,false,[9,10,11,12]),(13,true,[])]] ?_;refine aQ ?_;refine ao rfl wX rfl (λb d=>za b { s with top:=max 0 (min y (s.most n)) } i d.all A n c e) ?_;refine bx ?_;intro q k;exact aP.bQ ((),{ s with top:=max 0 (min y (s.most n)),dm:=_ }) ⟨rfl,a.K_ _ aa⟩ rfl (k.close (l:=cW { s with top:=max 0 (min y (s.most n)),dm:=_ }) ae)
theorem YD {α:Type} {E:bA α} {b w:World} {S:List Nat} {cs cs':List Chunk} {e:TypeId} {A:Option Addr} {c:Nat} {L:List α} {c0:Chunk} (h:af b S cs w) (g:bw cs (au e E A c L) cs') (i:Has cs' c0):Rd E w (λk=>k∉aB [c0]) A L.length c L:=by
 have a:=h.perm g.perm
 have d:=a.nodup
 rw[fq,fW] at d
 obtain⟨dG,c9,j,l⟩:=Rd.gf (E:=E) (show w.ownsRow 0 e E.sz (.slice A L.length c) L.length (E.all L) from a.has Has.head) rfl;injection j with m _ n
 subst m n;refine l.dC (λk o f=>?_);rw[show aB [c0]=c0.ch by simp[aB]] at f
 exact d.2.2 k (jb.2 o) k (e_.2 ⟨c0,i.mem,f⟩) rfl
theorem YE [Inhabited bO] (w:World) (s:bV) {m:Nat} {N:Int} (b:cQ s m N) (f:a8 w [cn s]) (k:Int):Calls prog 22 [ptr s.g,.int .i64 k].toArray w (wv s m N (λ_:Unit=> .tuple #[]) w):=by
 have p:=b.small
 have r:=b.K8
 refine bI func22 ntmps22 f ?_;refine aQ ?_;refine a6 (l0:=[]) aA.nil rfl Ew rfl (λd e=>K9 d s b (e.has aT)) (λz h=>?_);refine ar ?_;have t:z.l.length=s.rZ.length:=aU List.length h
 refine aC ?_;refine a6 (l0:=[]) aA.nil rfl Ey rfl (λd e=>K2 d s b (e.has bJ) z.A z.l.length z.c aa) (λa j=>?_);refine ah ?_;have u:0≤a∧a≤1000000:=by unfold bV.most at j;omega
 refine ar ?_;refine a6 (ι:=Unit × bV) (v:=λ_=> .tuple #[]) (l':=λi=>[cn i.2]) (ok:=λi=>i.2.g=s.g∧cQ i.2 m N) (l0:=[cn s]) ae rfl Ex rfl (λd e=>La d s b (e.bo ae) z.A z.l.length z.c aa _) (λq n=>?_);refine aq ?_;intro x o;exact aN q n o
theorem cQ.high [Inhabited bO] {s:bV} {m:Nat} {N:Int} (h:cQ s m N):1≤s.ap.s.l.length:=by
 have ai:c7 s.ap.abs:=h.T.first.ok.bD
 have:=ai.rows.1
 simpa [bq.abs] using this
theorem YF [Inhabited bO] (w:World) (s:bV) {m:Nat} {N:Int} (d:cQ s m N) (C:a8 w [cn s]) (k:Int) (D: -9223372036854775808≤k∧k≤9223372036854775807) (A:Option Addr) (n c:Nat) (L:List Int) (F:Rd bT w (λk=>k∉aB [cn s]) A n c L) (G:n≤100000):Calls prog 52 [ptr s.g,.int .i64 k,.slice A n c].toArray w (wv s m N (λi:Int=> .int .i64 i) w):=by
 have R:=d.small
 have S:=d.K8
 have T:=d.high
 refine bI func52 ntmps52 C ?_;refine aK ?_;refine a6 (l0:=[]) aA.nil rfl Ew rfl (λe f=>K9 e s d (f.has aT)) (λz B=>?_);refine ar ?_;have U:z.l.length=s.rZ.length:=aU List.length B
 refine aJ ?_;refine aW 17 rfl (λu=>?_) (λu=>?_);have H:=aX u
 refine b7 ?_;intro p o;exact aN (5,s) ⟨rfl,d⟩ o;have H:=bd u
 refine aC ?_;refine aj (λaH=>?_) (λaH=>?_);refine aK ?_;intro p o;exact aN (5,s) ⟨rfl,d⟩ o;refine aC ?_;refine a6 (l0:=[]) aA.nil rfl Ey rfl (λe f=>K2 e s d (f.has bJ) z.A z.l.length z.c aa) (λa I=>?_);have V:0≤a∧a<z.l.length:=by unfold bV.most at I;omega
 obtain⟨j,J⟩ : ∃j:Nat,a=(j:Int):=⟨a.toNat,aa⟩;obtain⟨v,K⟩ : ∃v,z.l[j]? = some v:=⟨_,bE aa⟩;refine jr (E:=oe) (q:=j) aT sv rfl rfl rfl J aa (λW M=>?_);refine ar ?_;refine a_ bN rfl rfl (λX O=>O.gJ (E:=oe) aT M K 0 _ rfl) ?_;refine aK ?_;refine a6 (l0:=[]) aA.nil rfl Nh rfl (λe f=>XZ e _ A n c L (F.ext f.ext (λ_ h=>h)) G _ k D) (λr _=>?_);refine aC ?_;refine a6 (l0:=[]) aA.nil rfl Ni rfl (λe f=>XG e _ z.A z.l.length z.c z.l (hv (f.has (c:=z.au) aT)) (B▸d.YB) aa r) (λ⟨t,b⟩ Y=>?_);refine b7 ?_;refine aW 41 rfl (λx=>?_) (λx=>?_);have P:=aX x
 refine b7 ?_;intro p o;exact aN (5,s) ⟨rfl,d⟩ o;have P:=bd x
 refine aC ?_;refine b1 rfl (λy=>?_) (λy=>?_);simp only[bZ] at y
 refine aK ?_;intro p o;exact aN (5,s) ⟨rfl,d⟩ o;simp only[bZ] at y
 refine aC ?_;refine a6 (ι:=Unit × bV) (v:=λ_=> .tuple #[]) (l':=λi=>[cn i.2]) (ok:=λi=>i.2.g=s.g∧cQ i.2 m N) (l0:=[cn s]) ae rfl Ex rfl (λe f=>La e s d (f.bo ae) z.A z.l.length z.c aa _) (λq Q=>?_);refine aJ ?_;intro p o;exact aN (0,q.2) Q o
theorem YG [Inhabited bO] (w:World) (s:bV) {m:Nat} {N:Int} (d:cQ s m N) (e:a8 w [cn s]) (k j:Int) (f: -9223372036854775808≤k∧k≤9223372036854775807):Calls prog 21 [ptr s.g,.int .i64 k,.int .i64 j].toArray w (wv s m N (λi:Int=> .int .i64 i) w):=by
 have h:=d.jV.1
 refine bI func21 ntmps21 e ?_;refine aQ ?_;refine a6 (l0:=[]) aA.nil rfl zJ rfl (λb a=>Dr b s d (a.has aT)) (λz n=>?_);have r:z.l.length≤10001:=by rw[n];exact h
 refine ar ?_;refine a6 (l0:=[]) aA.nil rfl M4 rfl (λb a=>XY b _ z.A z.l.length z.c z.l (hv (a.has (c:=z.au) aT)) aa j) (λy t=>?_);refine a6 (ι:=Int × bV) (v:=λi=> .int .i64 i.1) (l':=λi=>[cn i.2]) (ok:=λi=>i.2.g=s.g∧cQ i.2 m N) (l0:=[cn s]) ae rfl M3 rfl (λb a=>YF b s d (a.bo ae) k f y.A y.l.length y.c y.l (YD a (c0:=cn s) (L:=y.l) bj bJ) aa) (λq o=>?_);refine ay ?_;intro u p;exact aN q o p
theorem YH [Inhabited bO] (w:World) (s:bV) {m:Nat} {N:Int} (a:cQ s m N) (r:a8 w [cn s]) (id:Int) (k:Bool):Calls prog 20 [ptr s.g,.int .u64 id,.bool k].toArray w (wv s m N (λi:Int=> .int .i64 i) w):=by
 have t: ∃v:fd,∃o:Bool,rU (kl s.st.abs id ⟨s.rows,0⟩)= .tuple #[.agg v.enc.toArray,.bool o]:=by
  cases kl s.st.abs id ⟨s.rows,0⟩ with
  | none=>exact⟨_,_,rfl⟩
  | some v=>exact⟨v,true,rfl⟩
 obtain⟨v,o,n⟩:=t;refine bI func20 ntmps20 r ?_;cases k
 refine aQ ?_;refine ao rfl sA rfl (λh j=>n▸ue h s a (j.has aT) id) ?_;refine aS ?_;intro u x y;refine e3 (vs:=v.enc) gz rfl rfl (bn.whole cA bc) rfl (aI.cons rfl (aI.cons rfl (aI.cons rfl (aI.cons rfl (aI.cons rfl (aI.cons rfl (aI.cons rfl (gg rfl rfl rfl rfl rfl rfl rfl rfl rfl rfl)))))))) (by exact dV rfl) ?_;refine aK ?_;refine aW 17 rfl (λz=>?_) (λz=>?_);refine b7 ?_;intro e b;exact aN (5,s) ⟨rfl,a⟩ b;refine aC ?_;refine aj (λaH=>?_) (λaH=>?_);refine aK ?_;intro e b;exact aN (5,s) ⟨rfl,a⟩ b;refine aK ?_;refine b1 rfl (λp=>?_) (λp=>?_);refine re (lc:=cW s) cw ?_;refine al ?_;refine K0 underlying98 underlying54 a.mp bv rfl rfl rfl (λ_ _=>jk) (λc d f=>?_);refine aJ ?_;intro e b;exact aP.bQ (0,{ s with es:=c,ck:=d }) ⟨rfl,a.par,a.T,a.st,a.cY,f,a.top⟩ rfl ((b.close (l:=cW { s with es:=c,ck:=d }) ae).ax ae);simp only[bZ] at p
 refine re (lc:=cW s) cw ?_;refine al ?_;refine K1 underlying98 underlying54 a.mp rfl rfl (λ_ _=>jk) (λc d f=>?_);refine aJ ?_;intro e b;exact aP.bQ (0,{ s with es:=c,ck:=d }) ⟨rfl,a.par,a.T,a.st,a.cY,f,a.top⟩ rfl ((b.close (l:=cW { s with es:=c,ck:=d }) ae).ax ae);refine aQ ?_;refine ao rfl sA rfl (λh j=>n▸ue h s a (j.has aT) id) ?_;refine aS ?_;intro u x y;refine e3 (vs:=v.enc) gz rfl rfl (bn.whole cA bc) rfl (aI.cons rfl (aI.cons rfl (aI.cons rfl (aI.cons rfl (aI.cons rfl (aI.cons rfl (aI.cons rfl (gg rfl rfl rfl rfl rfl rfl rfl rfl rfl rfl)))))))) (by exact dV rfl) ?_;refine aK ?_;refine aW 17 rfl (λA=>?_) (λA=>?_);refine b7 ?_;intro e b;exact aN (5,s) ⟨rfl,a⟩ b;refine aC ?_;refine aj (λB=>?_) (λB=>?_);refine aK ?_;intro e b;exact aN (5,s) ⟨rfl,a⟩ b;refine aK ?_;refine b1 rfl (λq=>?_) (λq=>?_);simp only[bZ] at q
 refine re (lc:=cW s) cw ?_;refine al ?_;refine K0 underlying98 underlying54 a.mp bv rfl rfl rfl (λ_ _=>jk) (λc d f=>?_);refine aJ ?_;intro e b;exact aP.bQ (0,{ s with es:=c,ck:=d }) ⟨rfl,a.par,a.T,a.st,a.cY,f,a.top⟩ rfl ((b.close (l:=cW { s with es:=c,ck:=d }) ae).ax ae);refine re (lc:=cW s) cw ?_;refine al ?_;refine K1 underlying98 underlying54 a.mp rfl rfl (λ_ _=>jk) (λc d f=>?_);refine aJ ?_;intro e b;exact aP.bQ (0,{ s with es:=c,ck:=d }) ⟨rfl,a.par,a.T,a.st,a.cY,f,a.top⟩ rfl ((b.close (l:=cW { s with es:=c,ck:=d }) ae).ax ae)
theorem Lb {c:bh} (h:c.more.length≤32): (jH c).length≤36:=by
 unfold jH;split
 simp
 split
 simp
 have:=AM c.r
 rw[b6];omega
theorem Lc [Inhabited bO] {L:List bh} (h: ∀x∈L,x.more.length≤32) (row:Nat) (en:aY) (a:Nat): ∀k,(e5 L row en a k).length≤36*k
 | 0=>by simp[e5]
 | k+1=>by
  have d:=Lc h row en a k
  rw[e5,b6];split
  simp only[lL];omega
  cases b:L[k]? with
  | none=>simp only[lL];omega
  | some c=>
   have:=Lb (h c (da b))
   simp only[mQ];split
   rw[Gu];omega
   simp only[lL];omega
abbrev wx (rows:List bG):Prop:= ∀r∈rows,r.1.length≤100∧ ∀x∈r.1,x.more.length≤32
theorem Ld {rows:List bG} (h:wx rows) (k:Nat): (dQ rows k).length≤100∧ ∀x∈dQ rows k,x.more.length≤32:=by
 unfold dQ;cases a:rows[k]? with
 | none=>simp
 | some r=>exact h r (da a)
theorem Le [Inhabited bO] {rows:List bG} (h:wx rows) (fr to en:aY) (l0:Nat): ∀k,(gE rows fr to en l0 k).length≤3600*(k - l0)
 | 0=>by simp[gE]
 | k+1=>by
  have b:=Le h fr to en l0 k
  rw[gE,b6];split
  rename_i c;rw[u5 rows fr to en l0 k aa];simp
  have a:=Ld h k
  have d:=Lc a.2 k en (eT fr k).toNat (fY to k (dQ rows k).length).toNat
  have e: (fY to k (dQ rows k).length).toNat≤100:=by unfold fY;split <;> omega
  omega
theorem YI [Inhabited bO] {rows:List bG} (h:wx rows) (fr to:aY) (s e:Nat) (b:s<e): (e6 rows fr to ((s:Int),(e:Int))).length≤3601*(e - s):=by
 have a: ∀l1:Int,l1.toNat≤e→(gE rows fr to (fj rows fr to (max (s:Int) fr.row).toNat l1.toNat) (max (s:Int) fr.row).toNat l1.toNat++(if l1 - 1<to.row then [(10,jI rows l1)] else [])).length≤3601*(e - s):=λl1 c=>by
  have:=Le h fr to (fj rows fr to (max (s:Int) fr.row).toNat l1.toNat) (max (s:Int) fr.row).toNat l1.toNat
  rw[b6];have d: (if l1 - 1<to.row then ([(10,jI rows l1)]:fv) else []).length≤1:=by split <;> simp
  omega
 unfold e6;split
 exact a _ (by dsimp only;split <;> omega);exact bP _
theorem Lf {rows:List bG} {n C:Nat} {c:Type} {f:Int × Int→List c} (b: ∀s e:Nat,s<e→(f ((s:Int),(e:Int))).length≤C*(e - s)): ∀(L:List (Int × Int)) (a:Nat),oR rows n a L→(L.flatMap f).length≤C*(n - a)
 | [],_,_=>by simp
 | p::L,a,h=>by
  obtain⟨e,rfl,d,i,_,_,g⟩:=sS h;have j:=Lf b L e g
  have k:=b a e d
  rw[jX,b6];have l:C*(n - a)=C*(e - a)+C*(n - e):=by rw[←Nat.mul_add];congr 1;omega
  omega
theorem r0 [Inhabited bO] {rows:List bG} (h:wx rows) (b:rows.length≤200) (fr to:aY): (fT rows fr to).length≤1000000:=by
 rw[xA];unfold hR;split
 have:=Lf (C:=3601) (λs e a=>YI h (p6 fr) to s e a) _ _ (u3 rows rows.length)
 omega
 simp
def bV.ef (s:bV):List bG:=s.ap.r.rows++b5 s.ap.s.l
theorem cQ.ef [Inhabited bO] {s:bV} {m:Nat} {N:Int} (h:cQ s m N):wx s.ef∧s.ef.length≤200∧(s.ef.length:Int)=s.rows:=by
 have ai:c7 s.ap.abs:=h.T.first.ok.bD
 have b:=h.small
 have c:=h.ring
 have d:s.ap.abs.cols=s.ap.cols:=rfl
 refine⟨λr a=>?_,?_,?_⟩;rcases cZ.1 a with a | a
 have:=ai.nM r a
 exact⟨aa,this.2⟩;have:=ai.wide r a
 exact⟨aa,this.2⟩;unfold bV.ef;rw[b6,ll,cB];omega
 unfold bV.ef bV.rows;rw[b6,ll,cB];omega
def px (b:fd) (k:Int):Option (aY × aY):=if k=0 then some (b.start,b.stop) else if k=1 then some (b.start,b.input) else if k=2 then some (b.input,b.output) else if k=3 then some (b.output,b.done) else none
def Du:Option (aY × aY)→Value
 | some (a,b)=> .tuple #[d_ a,d_ b,.bool true]
 | none=> .tuple #[d_ ⟨0,0⟩,d_ ⟨0,0⟩,.bool false]
theorem Lg (w:World) (b:fd) (k:Int):Calls prog 44 [.agg b.enc.toArray,.int .i64 k].toArray w (Pure (Du (px b k)) w):=by
 unfold px;refine aV func44 ntmps44 ?_;refine ah ?_;intro c i j;refine ar ?_;intro l m n;refine ar ?_;intro o p q;refine dB ?_;refine aj (λe=>?_) (λe=>?_);refine ar ?_;refine eF [0,1,2,3] 2 [[(4,false,[]),(5,false,[6])]] (_) mixed ab (λ_ a=>a.drew) (λ_ h=>(show af _ _ [aD c b.enc 58] _ from h.ax ae)) ?_;refine aC ?_;refine b3 (λ_=>True) (λ_ h=> .inr ((h.rem bw.head).rem bw.head)) (λ_ h=>a1) ?_;refine ah ?_;refine b3 (λ_=>True) (λ_ h=> .inr ⟨.inr ((h.rem bw.head).rem bw.head),dp⟩) (λ_ h=>a1) ?_;refine aC ?_;refine nn results44 (cy.eX eg rfl bJ rfl rfl) (cy.eX eg rfl aT rfl rfl) (cy.tmp rfl) (λd a=>?_)
 (subst_vars;exact⟨rfl,a.ext⟩)
 refine al ?_;refine aj (λaH=>?_) (λaH=>?_);refine ar ?_;refine eF [0,1,2,3] 2 [[(4,false,[]),(5,false,[6])]] (_) mixed ab (λ_ a=>a.drew) (λ_ h=>(show af _ _ [aD c b.enc 58] _ from h.ax ae)) ?_;refine aC ?_;refine b3 (λ_=>True) (λ_ h=> .inr ((h.rem bw.head).rem bw.head)) (λ_ h=>a1) ?_;refine ah ?_;refine b3 (λ_=>True) (λ_ h=> .inr ⟨.inr ((h.rem bw.head).rem bw.head),dp⟩) (λ_ h=>a1) ?_;refine aC ?_;refine nn results44 (cy.eX eg rfl bJ rfl rfl) (cy.eX eg rfl aT rfl rfl) (cy.tmp rfl) (λd a=>?_)
 (subst_vars;exact⟨rfl,a.ext⟩)
 refine al ?_;refine aj (λf=>?_) (λf=>?_);refine ar ?_;refine eF [0,1,2,3] 2 [[(4,false,[]),(5,false,[6])]] (_) mixed ab (λ_ a=>a.drew) (λ_ h=>(show af _ _ [aD c b.enc 58] _ from h.ax ae)) ?_;refine aC ?_;refine b3 (λ_=>True) (λ_ h=> .inr ((h.rem bw.head).rem bw.head)) (λ_ h=>a1) ?_;refine ah ?_;refine b3 (λ_=>True) (λ_ h=> .inr ⟨.inr ((h.rem bw.head).rem bw.head),dp⟩) (λ_ h=>a1) ?_;refine aC ?_;refine nn results44 (cy.eX eg rfl bJ rfl rfl) (cy.eX eg rfl aT rfl rfl) (cy.tmp rfl) (λd a=>?_)
 (subst_vars;exact⟨rfl,a.ext⟩)
 refine al ?_;refine aj (λg=>?_) (λg=>?_);refine ar ?_;refine eF [0,1,2,3] 2 [[(4,false,[]),(5,false,[6])]] (_) mixed ab (λ_ a=>a.drew) (λ_ h=>(show af _ _ [aD c b.enc 58] _ from h.ax ae)) ?_;refine aC ?_;refine b3 (λ_=>True) (λ_ h=> .inr ((h.rem bw.head).rem bw.head)) (λ_ h=>a1) ?_;refine ah ?_;refine b3 (λ_=>True) (λ_ h=> .inr ⟨.inr ((h.rem bw.head).rem bw.head),dp⟩) (λ_ h=>a1) ?_;refine aC ?_;refine nn results44 (cy.eX eg rfl bJ rfl rfl) (cy.eX eg rfl aT rfl rfl) (cy.tmp rfl) (λd a=>?_)
 (subst_vars;exact⟨rfl,a.ext⟩)
 refine bH ?_;refine nn results44 (cy.eX eg rfl bJ rfl rfl) (cy.eX eg rfl aT rfl rfl) (cy.tmp rfl) (λd a=>?_);exact⟨by rw[ag bv,ag bv,ag bv,ag bv];rfl,a.ext⟩
end Go.Proofs.YtlgnfdodnhokjaaGreatDoor.Mq
