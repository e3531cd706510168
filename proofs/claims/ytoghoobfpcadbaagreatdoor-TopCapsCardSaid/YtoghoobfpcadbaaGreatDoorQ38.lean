/- part 38 of the proof -/
import Derived.Test.YtoghoobfpcadbaaGreatDoorQ37
import Derived.MapKept
namespace Go.Proofs.YtoghoobfpcadbaaGreatDoor.Mq
open Go Go.RowKit Go.Proofs Tryz
abbrev iy (bL:Option Addr) (v:Value):List Value:=[.pointer bL,v]
abbrev wb (g:Nat) (bL:Option Addr) (z:is):Chunk:=aU [aE g (iy bL z.val) 81,z.au]
theorem XE (w:World) (g:Nat) (bL:Option Addr) (v:Value) (c:a8 w [aE g (iy bL v) 81]) (d:bL=none∨bL=some ⟨g,0,none⟩):Calls prog 125 [ptr g].toArray w
 (aO (λ_:Unit=> .tuple #[]) [aE g (iy bL v) 81] (λ_=>[aE g (iy (some ⟨g,0,none⟩) v) 81]) (λ_=>True) w):=by
 have hi: ∃j,prog.info? 81=some j∧j.size≠0:=by
  have h: (prog.info? 81).map (λj=>Nat.beq j.size 0)=some false:=by kernel_rfl
  cases a:prog.info? 81 with
  | none=>rw[a] at h;cases h
  | some j=>
   rw[a] at h
   refine⟨j,rfl,λf=>?_⟩;simp[f] at h
 obtain⟨j,a,i⟩:=hi;have k:liesAt prog prog.depth 81 (2/prog.cellsOf 81) 0 81 1=true:=by kernel_rfl
 refine calls (n:=20) func125 rfl ntmps125 rfl ?_;refine cL ?_ (Sub.refl _) c.start;rcases d with rfl | rfl
 refine bI ?_;refine HZ underlying79 underlying286 a i (xs:=_) aQ (show 0<2 by decide) rfl rfl ?_;refine w7 rfl rfl (λp _=>by rw[run_callFunc_extern func192 ab ab ab (e:=Extern.AbiNoEscape.same) ab];rw[Lib.run_noEscape];rfl) ?_;refine H0 (m:=2) (o:=0) underlying286 underlying79 a (xs:=_) aQ rfl k rfl rfl ?_;refine ax ?_;intro l b;exact aN () aT b;refine et ?_;refine H1 underlying79 a rfl rfl rfl ?_;refine ax ?_;intro l b;exact aN () aT b
theorem XF (w:World) (g:Nat) (bL:Option Addr) (z:is) (a:a8 w [aE g (iy bL z.val) 81,z.au]) (b:bL=none∨bL=some ⟨g,0,none⟩) (s:List UInt8) (c:z.l.length+s.length≤140737488355328):Calls prog 72 [ptr g,.string (bs s)].toArray w
 (aO (λ_:is=> .tuple #[.int .i64 (s.length:Int),.nilIface]) [aE g (iy bL z.val) 81,z.au] (λy=>[aE g (iy (some ⟨g,0,none⟩) y.val) 81,y.au]) (λy=>y.l=z.l++s) w):=by
 refine calls (n:=19) func72 rfl ntmps72 rfl ?_;refine cL (H':=af w (aA [aE g (iy bL z.val) 81,z.au]) [aE g (iy bL z.val) 81,z.au]) ?_ (Sub.refl _) a.start;refine aJ ?_;refine cE (λd e=>XE d g bL z.val e b) (λ_ _=>?_);refine aR ?_;refine H2 fk ab underlying9 rfl rfl rfl (λ_ _=>er) c (λdF c9=>?_);refine cI ?_;intro h f;exact aN ⟨dF,c9,z.l++s⟩ rfl f
structure yT where
 bL:Option Addr
 z:is
theorem XG (g M:Nat) (m:M≤140737488355328):yS 71 g M (λi:yT=>wb g i.bL i.z) (λs i=>(i.bL=none∨i.bL=some ⟨g,0,none⟩)∧i.z.l=s):=by
 intro c s ⟨bL,z⟩ t p a o b;dsimp only at a b ⊢
 have b:=b.jv
 refine Calls.mono ?_ (λe w' h=>aO.star (l:=[aE g (iy bL z.val) 81,z.au]) (v:=λ_:yT=>Value.tuple #[]) (l':=λj=>[aE g (iy j.bL j.z.val) 81,j.z.au]) (ok:=λj=>(j.bL=none∨j.bL=some ⟨g,0,none⟩)∧j.z.l=s++t) h);refine calls (n:=7) func71 rfl ntmps71 rfl ?_;refine cL (H':=af c (aA [aE g (iy bL z.val) 81,z.au]) [aE g (iy bL z.val) 81,z.au]) ?_ (Sub.refl _) b.start;refine ah ?_;intro q r u;refine aS ?_;refine aY (l0:=[aE g (iy bL z.val) 81,z.au]) ae rfl Ek rfl (λc d=>XF c g bL z (d.bo ae) a.1 t (by rw[a.2];omega)) (λy f=>?_);refine aq ?_;intro w k;exact aN ⟨some ⟨g,0,none⟩,y⟩ ⟨.inr rfl,by rw[f,a.2]⟩ k
theorem XH {w w':World} {g:Nat} {bL:Option Addr} {z:is} (h:af w [] [aE g (iy bL z.val) 81,z.au] w') (p:bL=none∨bL=some ⟨g,0,none⟩):Ki w g z.l w':=by
 have d:w.heap.size≤g:=by
  rcases e0 g w.heap.size with a | b
  exact absurd (h.ei g (by simp[aA,aE]) a) av;exact b
 have e:=h.nodup
 have f:w'.ownsRow 0 5 1 z.val z.l.length (cD.all z.l):=h.has (c:=z.au) (Has.tail Has.head)
 have q: ∀k,z.val.ownBlock=some k→w.heap.size≤k:=λk r=>by
  rcases e0 k w.heap.size with a | b
  exact absurd (h.ei k (e3.2 ⟨z.au,by simp,i_.2 r⟩) a) av;exact b
 have i:z.val.ownBlock≠some g:=λs=>by
  rw[fi,fS] at e
  exact e.2.2 g (by simp[aE]) g (e3.2 ⟨z.au,by simp,i_.2 s⟩) rfl
 have j:w'.heap[g]? = some (.cells (iy bL z.val).toArray 81 (0,0)):=h.has (c:=aE g (iy bL z.val) 81) Has.head
 have t:cD.all z.l=Lib.byteCells z.l:=by
  rw[←HX,Lib.strCells_eq]
 have m:w'.ownsRowF w.heap.size 5 1 z.val z.l.length (Lib.byteCells z.l):=by
  rw[←t];refine World.ownsRowF_of ⟨f.1,?_⟩;rcases f.2 with u | ⟨k,cap,am,n,_,rest⟩
  exact .inl u;exact .inr ⟨k,cap,am,n,q k (by rw[n];rfl),rest⟩
 have o: (Lib.byteCells z.l).length=z.l.length:=Lib.byteCells_length _
 refine⟨h.ext,?_⟩;rcases p with rfl | rfl
 exact .inl ⟨d,z.val,j,by rw[o];exact m,i⟩;exact .inr ⟨d,z.val,j,by rw[o];exact m,i⟩
theorem eu.off {b w:World} {F:Nat→Prop} {cs:List Chunk} {c0:Chunk} {A:Option Addr} {n c:Nat} {rows:List bS} (d:eu b F A n c rows) (h:af b [] cs w) (e:Has cs c0):eu w (λk=>k∉aA [c0]) A n c rows:=by
 refine (d.hI.ext h.ext (λk _=>by simp)).dJ (λk f a=>?_);rw[show aA [c0]=c0.cm by simp[aA]] at a
 exact absurd (h.ei k (e3.2 ⟨c0,e.mem,a⟩) f.2) av
theorem Kj (w:World) (F:Nat→Prop) (A:Option Addr) (n c:Nat) (rows:List bS) (d:eu w F A n c rows) (fr to:bh) (f:n≤100000) (g:0≤fr.row∧fr.row≤4398046511104) (j:0≤to.dp) (k:0≤to.row∧to.row≤4398046511104)
 (m: ∀row∈rows,∀x∈row.1,x.more.length≤1000000) (o: (jE rows fr to).length≤140737488355328):
 Calls prog 36 [.slice A n c,ee fr,ee to].toArray w (Pure (.string (bs (jE rows fr to))) w):=by
 refine aW func36 ntmps36 ?_;refine ah ?_;intro t u y;refine ar ?_;intro B C D;refine al ?_;intro a E G;refine aL ?_;refine hg (H':=af w [] [wb a none ⟨none,0,[]⟩]) ?_ (Sub.refl _) (λx p=>((p.eO 5 cD).close (l:=[aE a (iy none (is.val ⟨none,0,[]⟩)) 81,is.au ⟨none,0,[]⟩]) ae).aw ae);refine aY (ι:=yT) (v:=λ_=> .tuple #[]) (l':=λi=>[wb a i.bL i.z]) (ok:=λi=>(i.bL=none∨i.bL=some ⟨a,0,none⟩)∧i.z.l=jE rows fr to) (l0:=[wb a none ⟨none,0,[]⟩]) ae rfl Ej rfl (λq b=>Kh q (λi:yT=>wb a i.bL i.z) _ ⟨none,⟨none,0,[]⟩⟩ A n c rows (d.off b Has.head) fr to _ a _ MC (XG a 140737488355328 (ch _)) f g j k m o (b.bo ae) ⟨.inl rfl,rfl⟩) (λi hi=>?_);refine aS ?_;refine sC (v:= .string (bs (jE rows fr to))) (H':=af w [] []) rfl Ce rfl (λw' r=>(by have h:=XD w a _ w' (XH ((r.open (l:=[aE a (iy i.bL i.z.val) 81,i.z.au]) bv.head).aw ae) hi.1);rw[hi.2] at h;exact h.mono (λe H h=>⟨h.1,⟨h.2,by simp[aA],by simp,by simp[aA]⟩⟩))) ?_;refine ax ?_;intro I s;exact⟨rfl,s.ext⟩
abbrev wc (g:Nat) (z:dl):Chunk:=aU [aE g [z.val] 47,z.au]
theorem XI (g M:Nat) (A:M≤1000000000):yS 88 g M (wc g) (λs i=>i.l.length=s.length):=by
 intro b s z t p c B a;dsimp only at c a ⊢
 have a:=a.jv
 refine Calls.mono ?_ (λe w' h=>aO.star (l:=[aE g [z.val] 47,z.au]) (v:=λ_:dl=>Value.tuple #[]) (l':=λj=>[aE g [j.val] 47,j.au]) (ok:=λj=>j.l.length=(s++t).length) h);obtain⟨d,f⟩:=p;refine calls (n:=14) func88 rfl ntmps88 rfl ?_;refine cL (H':=af b (aA [aE g [z.val] 47,z.au]) [aE g [z.val] 47,z.au]) ?_ (Sub.refl _) a.start;refine ah ?_;intro k C D;refine aR ?_;refine b1 (ι:=Nat × dl) (λq=>[(2,ptr g),(4,ptr k),(6,.int .i64 (t.length:Int)),(7,.int .i64 (q.1 :Int))]) (λq=>af b (aA [aE g [z.val] 47,z.au]) [aE k [.int .i64 d,.int .i64 f] 51,aE g [q.2.val] 47,q.2.au]) (λq=>q.1≤t.length∧q.2.l.length=s.length+q.1) (λq=>t.length - q.1) ?_ ?_;exact λw' m=>⟨(0,z),⟨bP _,c⟩,(cw rfl rfl rfl rfl),m⟩
 rintro⟨i,y⟩ ⟨hi,o⟩;dsimp only at hi o ⊢
 refine al ?_;refine aj (λr=>?_) (λr=>?_);refine aD ?_;refine dG (E:=bW) ⟨_,_⟩ ds rfl rfl rfl rfl rfl (λF G H=>?_);refine ew (E:=bW) ds rfl rfl rfl bi (λ_ _=>ld) b7 b7 (λu w=>?_);refine aL ?_;exact bg (i+1,⟨u,w,y.l++[⟨d,f⟩]⟩) ⟨by dsimp only;omega,by dsimp only;rw[b8,iC];omega⟩ bm bR (λ_ h=>h.aw ae);refine ax ?_;intro I x;exact aN y (by rw[b8];omega) x
theorem XJ (w:World) (F:Nat→Prop) (A:Option Addr) (n c:Nat) (rows:List bS) (d:eu w F A n c rows) (fr to:bh) (e:n≤100000) (f:0≤fr.row∧fr.row≤4398046511104) (g:0≤to.dp) (h:0≤to.row∧to.row≤4398046511104)
 (j: ∀row∈rows,∀x∈row.1,x.more.length≤1000000) (k: (jE rows fr to).length≤1000000000):
 Calls prog 48 [.slice A n c,ee fr,ee to].toArray w (aO (λz:dl=>z.val) [] (λz=>[z.au]) (λz=>z.l.length=(jE rows fr to).length) w):=by
 refine aW func48 ntmps48 ?_;refine ah ?_;intro r t u;refine ar ?_;intro y B C;refine ax ?_;refine sb LP rfl (λa D E=>?_);refine aL ?_;refine hg (H':=af w [] [wc a ⟨none,0,[]⟩]) ?_ (Sub.refl _) (λx m=>((m.eO 51 bW).close (l:=[aE a [dl.val ⟨none,0,[]⟩] 47,dl.au ⟨none,0,[]⟩]) ae).aw ae);refine aY (ι:=dl) (v:=λ_=> .tuple #[]) (l':=λi=>[wc a i]) (ok:=λi=>i.l.length=(jE rows fr to).length) (l0:=[wc a ⟨none,0,[]⟩]) ae rfl Ej rfl (λo b=>Kh o (wc a) (λs i=>i.l.length=s.length) ⟨none,0,[]⟩ A n c rows (d.off b Has.head) fr to _ a _ MJ (XI a 1000000000 (ch _)) e f g h j k (b.bo ae) rfl) (λz p=>?_);refine ah ?_;refine q3 (lc:=[aE a [z.val] 47,z.au]) bi ?_;refine aD ?_;intro G q;exact aN z p q
theorem XK:ad prog 126:=ad.of func126 ab ab
def tT (s p:List UInt8):Bool:=decide (s.drop (s.length - p.length)=p)
theorem XL {s p:List UInt8} (h:tT s p=true):p.length≤s.length:=by
 have a:=aV List.length (a1 h)
 rw[fK] at a
 omega
theorem XM (w:World) (s p:List UInt8) (f:s.length≤9223372036854775807) (ai:p.length≤9223372036854775807):Calls prog 126 [.string (bs s),.string (bs p)].toArray w (λe w'=>e= .returned (.bool (tT s p))∧Ext [] w w'):=by
 refine aW func126 ntmps126 ?_;refine bI ?_;refine aX 10 rfl (λa=>?_) (λa=>?_);have c:=a1 a
 refine bp ?_;refine gN (r:=((s.length - p.length:Nat):Int)) rfl rfl rfl (by rw[wrap64 aa aa];omega) ?_;refine ar ?_;refine pB (s.length - p.length) underlying9 rfl rfl rfl bb aa ?_;refine aR ?_;intro d b;exact⟨rfl,b.ext⟩;have c:=bc a
 refine cI ?_;intro d b;refine⟨?_,b.ext⟩;rw[show tT s p=false from Bool.eq_false_iff.2 (λe=>c (by have:=XL e;omega))]
def n5 (s:List UInt8):List UInt8:=(s.reverse.dropWhile (· == 10)).reverse
theorem XN {s:List UInt8} (h:tT s [10]=true):n5 (s.take (s.length - 1))=n5 s:=by
 have a:=a1 h
 have e:s=s.take (s.length - 1)++[10]:=by
  conv=>lhs;rw[←i7 (s.length - 1) s]
  exact aV _ a
 generalize s.take (s.length - 1)=t at e
 subst e;unfold n5;rw[uj];simp
theorem XO {s:List UInt8} (h:tT s [10]=false):n5 s=s:=by
 rcases List.eq_nil_or_concat s with rfl | ⟨t,x,rfl⟩
 rfl
 unfold n5;rw[List.concat_eq_append,uj];rw[show [x].reverse++t.reverse=x::t.reverse from rfl,List.dropWhile_cons_of_neg,List.reverse_cons,List.reverse_reverse];intro a;have b:x=10:=by simpa using a
 subst b;have:=bc h
 exact this av
theorem XP (w:World) (s p:List UInt8) (a:s.length≤9223372036854775807) (ai:p.length≤9223372036854775807):Calls prog 74 [.string (bs s),.string (bs p)].toArray w (λe w'=>e= .returned (.bool (tT s p))∧Ext [] w w'):=by
 refine aW func74 ntmps74 ?_;refine aJ ?_;refine ao rfl XK rfl (λw' _=>XM w' s p a ai) ?_;refine ax ?_;intro c b;exact⟨rfl,b.ext⟩
theorem XQ (w:World) (s:List UInt8) (f:s.length≤9223372036854775807):Calls prog 37 [.string (bs s)].toArray w (λe w'=>e= .returned (.string (bs (n5 s)))∧Ext [] w w'):=by
 refine aW func37 ntmps37 ?_;refine aD ?_;refine b1 (ι:=List UInt8) (λt=>[(0,.string (bs t))]) (λ_=>af w [] []) (λt=>t.length≤s.length∧n5 t=n5 s) (λt=>t.length) ?_ ?_;exact λw' c=>⟨s,⟨ch _,rfl⟩,(up rfl),c⟩
 rintro t ⟨g,b⟩;refine aS ?_;refine ao rfl MD rfl (λw' _=>XP w' t [10] aa aZ) ?_;refine aq ?_;refine aj (λa=>?_) (λa=>?_);have i:0<t.length:=by
  cases t with
  | nil=>exact absurd a aZ
  | cons _ _=>exact Nat.succ_pos _
 refine aD ?_;refine gN (r:=((t.length - 1 :Nat):Int)) rfl rfl rfl (by rw[wrap64 aa aa];omega) ?_;refine pC (t.length - 1) underlying9 rfl rfl rfl bb aa ?_;refine ah ?_;exact bg (t.take (t.length - 1)) ⟨by rw[dv];omega,by rw[XN (b5 a),b]⟩ (by rw[dv];omega) bR (λ_ h=>h);rw[←b,XO (bO a)];refine bI ?_;intro j d;exact⟨rfl,d.ext⟩
end Go.Proofs.YtoghoobfpcadbaaGreatDoor.Mq
namespace Go.Proofs.YtoghoobfpcadbaaGreatDoor.Mq
open Go Go.RowKit Go.Proofs Go.MapKept
section
def pk (es:Array MapEntry):Prop:= ∀x∈es.toList,∃k v:Int,x.key= .int .u64 k∧k≠0∧x.val= .int .i64 v
theorem pk.key {es:Array MapEntry} (h:pk es): ∀x∈es.toList,IsKey (.int .u64) x.key:=λx a=>by
 obtain⟨k,v,b,_⟩:=h x a;rw[b];exact rfl
def kX (g:Nat) (es:Array MapEntry) (ck:Nat):Chunk where
 cm:=[g]
 pred w:=w.heap[g]? = some (.map es ck)
 low w h k a:=by
  simp only[ey] at a
  subst a
  exact (lE.1 h).1
 loc w w' h ai:=by rw[h g av];exact ai
def foldI (es:Array MapEntry) (k:Int):Int:=match Instr.findNow (.int .u64) (.int .u64 k) es.toList 0 with | some (some (_,.int .i64 v))=>v | _=>0
theorem XR {es:Array MapEntry} (h:pk es):foldI es 0=0:=by
 unfold foldI;rcases findNow_spec (d:= .int .u64) (k:= .int .u64 0) rfl es.toList 0 h.key with ⟨b,_⟩ | ⟨j,e,b,c,a⟩
 rw[b];obtain⟨k,v,f,g,_⟩:=h e (dc c);rw[f] at a
 injection a with _ a
 exact absurd a g
section
variable {P:Program} {n:Nat} {ops:Array Oper} {Q:cq} {rest:List Oper} {l:Fr} {d:Nat} {ty:TypeId} {pos:String} {a6:Array Edge}
variable {b:World} {S:List Nat} {cs:List Chunk}
theorem XS {H:World→Prop} {x y:Operand} {mt f m:TypeId} {g ck:Nat} {es:Array MapEntry} {k:Int} (o:P.underlying mt=some (.map f m)) (b:P.underlying f=some (.int .u64)) (u:cN P m (.int .i64 0)) (p:pk es) (ak:Nat.blt d n=true)
 (q:ba l x=some (.map (some g))) (r:ba l y=some (.int .u64 k)) (s: ∀w,H w→w.heap[g]? = some (.map es ck))
 (h:az P n ops Q rest ((d,.int .i64 (foldI es k))::l) H):az P n ops Q (⟨some d,.lookup mt x y false,ty,pos,a6,none⟩::rest) l H:=by
 obtain⟨i,z,A,_⟩:=u.inf;refine r_ _ ak (λD w c t=>?_) h;rcases findNow_spec (d:= .int .u64) (k:= .int .u64 k) rfl es.toList 0 p.key with ⟨a,_⟩ | ⟨j,e,a,B,E⟩
 simp[execOp,c x _ q,c y _ r,Instr.lookup,run_underlying o,MapKept.run_getObj_map (s w t),MapKept.run_checkKey (k:= .int .u64 k) b rfl,MapKept.run_findKey b a,r9 z A,Result.andThen,foldI,a]
 obtain⟨F,v,G,I,C⟩:=p e (dc B);simp[execOp,c x _ q,c y _ r,Instr.lookup,run_underlying o,MapKept.run_getObj_map (s w t),MapKept.run_checkKey (k:= .int .u64 k) b rfl,MapKept.run_findKey b a,Result.andThen,foldI,a,C]
theorem af.yU {w:World} (h:af b S cs w) {g ck a:Nat} {es c:Array MapEntry} {cs':List Chunk} (d:bn cs (kX g es ck) (kX g c a) cs'):af b S cs' { w with heap:=w.heap.setIfInBounds g (.map c a) }:=by
 have f:w.heap[g]? = some (.map es ck):=h.has d.has
 have e:=heap_set (o':= .map c a) f
 exact h.ic d ⟨rfl,rfl,rfl,by simp,λk _ i=>e.2 k (by simpa [kX] using i)⟩ e.1 (by simp[kX]) (by simp[kX])
theorem Kk {x y z:Operand} {mt A F:TypeId} {g ck:Nat} {es:Array MapEntry} {k v:Int} {cs':Array MapEntry→Nat→List Chunk} (B:P.underlying mt=some (.map A F)) (i:P.underlying A=some (.int .u64)) (p:pk es) (C:k≠0)
 (a:ba l x=some (.map (some g))) (D:ba l y=some (.int .u64 k)) (E:ba l z=some (.int .i64 v)) (r: ∀f m,bn cs (kX g es ck) (kX g f m) (cs' f m))
 (h: ∀f m,pk f→az P n ops Q rest l (af b S (cs' f m))):az P n ops Q (⟨none,.mapUpdate mt x y z,ty,pos,a6,none⟩::rest) l (af b S cs):=by
 refine uq λJ w c s=>?_
 have o:w.heap[g]? = some (.map es ck):=s.has (r es ck).has
 rcases findNow_spec (d:= .int .u64) (k:= .int .u64 k) rfl es.toList 0 p.key with ⟨t,_⟩ | ⟨j,e,t,G,H⟩
 refine⟨_,?_,(h (es.push ⟨.int .u64 k,.int .i64 v,ck⟩) (ck+1) (λx a=>?_)).at (s.yU (r _ _))⟩;simp[execOp,c x _ a,c y _ D,c z _ E,Instr.mapUpdate,run_underlying B,MapKept.run_getObj_map o,MapKept.run_checkKey (k:= .int .u64 k) i rfl,MapKept.run_findKey i t,MapKept.run_setObj_map _ o,Result.andThen]
 simp only[Array.toList_push,db,ey] at a
 rcases a with a | rfl
 exact p x a;exact⟨k,v,rfl,C,rfl⟩;have I:es[j]? = some e:=by simpa using G
 refine⟨_,?_,(h (es.modify j λe=>{ e with key:= .int .u64 k,val:= .int .i64 v }) ck (λx a=>?_)).at (s.yU (r _ _))⟩;simp[execOp,c x _ a,c y _ D,c z _ E,Instr.mapUpdate,run_underlying B,MapKept.run_getObj_map o,MapKept.run_checkKey (k:= .int .u64 k) i rfl,MapKept.run_findKey i t,I,H,run_keyThatStays (d:= .int .u64) (k:= .int .u64 k) rfl,MapKept.run_setObj_map _ o,Result.andThen]
 obtain⟨q,u⟩:=List.mem_iff_getElem?.1 a;rw[Array.getElem?_toList,qz] at u
 split at u
 obtain⟨K,_,rfl⟩:=Option.map_eq_some_iff.1 u;exact⟨k,v,rfl,C,rfl⟩;exact p x (dc (by rwa [Array.getElem?_toList]))
theorem Kl {x y:Operand} {mt p z:TypeId} {g ck:Nat} {es:Array MapEntry} {k:Int} {cs':Array MapEntry→Nat→List Chunk} (u:P.underlying mt=some (.map p z)) (c:P.underlying p=some (.int .u64)) (q:pk es)
 (f:ba l x=some (.map (some g))) (v:ba l y=some (.int .u64 k)) (r: ∀a i,bn cs (kX g es ck) (kX g a i) (cs' a i))
 (h: ∀a i,pk a→az P n ops Q rest l (af b S (cs' a i))):az P n ops Q (⟨none,.call ⟨.builtin .delete,#[x,y],#[mt,p]⟩,ty,pos,a6,none⟩::rest) l (af b S cs):=by
 refine FE λB w m s=>?_
 have o:w.heap[g]? = some (.map es ck):=s.has (r es ck).has
 rcases findNow_spec (d:= .int .u64) (k:= .int .u64 k) rfl es.toList 0 q.key with ⟨t,_⟩ | ⟨j,e,t,C,D⟩
 refine⟨.tuple #[],_,?_,(h es ck q).at (s.yU (r _ _))⟩;simp[execOp,resolve,invoke,builtin,m x _ f,m y _ v,Builtin.delete_,run_underlying u,MapKept.run_getObj_map o,MapKept.run_checkKey (k:= .int .u64 k) c rfl,MapKept.run_findKey c t,MapKept.run_setObj_map _ o,Result.andThen]
 refine⟨.tuple #[],_,?_,(h (es.eraseIdxIfInBounds j) ck (λx f=>q x ?_)).at (s.yU (r _ _))⟩;simp[execOp,resolve,invoke,builtin,m x _ f,m y _ v,Builtin.delete_,run_underlying u,MapKept.run_getObj_map o,MapKept.run_checkKey (k:= .int .u64 k) c rfl,MapKept.run_findKey c t,MapKept.run_setObj_map _ o,Result.andThen]
 have A: (es.eraseIdxIfInBounds j).toList.Sublist es.toList:=by
  unfold Array.eraseIdxIfInBounds;split
  simp only[Array.toList_eraseIdx];exact List.eraseIdx_sublist _ _
  exact List.Sublist.refl _
 exact A.subset f
theorem XT {t:TypeId} (ak:Nat.blt d n=true) (h: ∀g,b.heap.size≤g→(∀k∈aA cs,k<g)→az P n ops Q rest ((d,.map (some g))::l) (af b S (kX g #[] 0::cs))):
 az P n ops Q (⟨some d,.makeMap t none,ty,pos,a6,none⟩::rest) l (af b S cs):=by
 refine hD ak λe w f a=>⟨.map (some w.heap.size),w.alloc (.map #[] 0),?_,(h w.heap.size a.ext.size (λk c=>a.lt c)).at (a.add (Ext.alloc _ _ _) (heap_alloc w _).1 (by simp[kX]) (by simp[kX]))⟩
 simp[execOp,Instr.makeMap,Result.andThen]
end
end
end Go.Proofs.YtoghoobfpcadbaaGreatDoor.Mq
namespace Go.Proofs.YtoghoobfpcadbaaGreatDoor.Mq
open Go Go.RowKit Go.Proofs Tryz
section
structure bU where
 g:Nat
 top:Int
 dn:Bool
 cb:Nat
 p:cg
 T:bK
 st:cK
 cx:g_
 dq:Nat
 es:Array MapEntry
 ck:Nat
abbrev tU (s:bU):List Value:=[.int .i64 s.top,.bool s.dn,ptr s.cb,ptr s.st.g,ptr s.cx.g,.map (some s.dq)]
abbrev bU.an (s:bU):Chunk:=aE s.g (tU s) 73
abbrev cS [Inhabited bN] (s:bU):List Chunk:=[s.an,aU (fg s.p s.cb s.p.g s.T),aU (cX s.st),aU (e8 s.cx),kX s.dq s.es s.ck]
abbrev bU.ap (s:bU):bq:=(firstT s.T).ap
def bU.rows (s:bU):Int:=s.ap.r.n+(s.ap.s.l.length:Int)
structure cF (s:bU) (m:Nat) (N:Int):Prop where
 par:fG s.p
 T:cp s.cb s.ap.r.room m s.T
 st:fJ s.st N
 cx:qq s.cx
 mp:pk s.es
 top:0≤s.top∧s.top≤1000000
theorem cp.first {g:Nat} {R:Int} {m:Nat} {t:bK} (h:cp g R m t):dW (firstT t):=by
 unfold firstT;split
 exact h.bk;exact h.am
theorem cF.small [Inhabited bN] {s:bU} {m:Nat} {N:Int} (h:cF s m N):s.ap.s.l.length≤100∧s.ap.cols≤100∧s.ap.r.room≤100:=h.T.first.small
theorem cF.ring [Inhabited bN] {s:bU} {m:Nat} {N:Int} (h:cF s m N):0≤s.ap.r.n∧s.ap.r.n≤100:=by
 have a:cU s.ap.r:=h.T.first.g.r
 have b:=a.n
 have c:=a.len
 have d:=h.small
 exact⟨b.1,aa⟩
section
variable {w:World} {s:bU}
theorem qw [Inhabited bN] (h: (aU (cS s)).pred w):s.an.pred w:=h _ av
theorem yV [Inhabited bN] (h: (aU (cS s)).pred w): (aU (fg s.p s.cb s.p.g s.T)).pred w:=h _ av
theorem C8 [Inhabited bN] (h: (aU (cS s)).pred w): (aU (cX s.st)).pred w:=h _ av
theorem tV [Inhabited bN] (h: (aU (cS s)).pred w): (eE s.cb s.p.g s.T).pred w:=yV h _ av
theorem C9 [Inhabited bN] (h: (aU (cS s)).pred w): (aU (aP (firstT s.T))).pred w:=by
 unfold firstT;split
 exact yV h _ av;exact yV h _ av
theorem we [Inhabited bN] (h: (aU (cS s)).pred w): (firstT s.T).an.pred w:=C9 h _ av
theorem yW [Inhabited bN] (h: (aU (cS s)).pred w):s.ap.an.pred w:=C9 h _ av
theorem XU [Inhabited bN] (h: (aU (cS s)).pred w):s.ap.r.an.pred w:=((C9 h _ av: (aU (cd s.ap.r)).pred w)) _ av
theorem XV [Inhabited bN] (h: (aU (cS s)).pred w): (kX s.dq s.es s.ck).pred w:=h _ av
end
theorem wg [Inhabited bN] (w:World) (s:bU) (a: (aU (cS s)).pred w):Calls prog 9 [ptr s.g].toArray w (Pure (ptr s.cb) w):=by
 have b:=qw a
 refine aW func9 ntmps9 ?_;refine hr ?_;refine a7 DS rfl rfl (λe c=>c.bZ b (by (simp;done)) rfl) ?_;refine ax ?_;intro f d;exact⟨rfl,d.ext⟩
theorem XW [Inhabited bN] (w:World) (s:bU) (c: (aU (cS s)).pred w):Calls prog 142 [ptr s.g].toArray w (Pure (.int .i64 (s.ap.s.l.length:Int)) w):=by
 have d:=qw c
 refine aW func142 ntmps142 ?_;refine aR ?_;refine a7 DS rfl rfl (λh e=>e.bZ d (by (simp;done)) rfl) ?_;refine ao rfl oy rfl (λa b=>o8 a s.cb s.p.g s.T (tV (Chunk.dL _ c b.ext))) ?_;refine ao rfl jV rfl (λa b=>j3 a (firstT s.T) (we (Chunk.dL _ c b.ext))) ?_;refine ao rfl pH rfl (λa b=>p1 a s.ap (yW (Chunk.dL _ c b.ext))) ?_;refine ax ?_;intro i f;exact⟨rfl,f.ext⟩
theorem C_ [Inhabited bN] (w:World) (s:bU) {m:Nat} {N:Int} (d:cF s m N) (c: (aU (cS s)).pred w):Calls prog 55 [ptr s.g].toArray w (Pure (.int .i64 s.rows) w):=by
 have f:=qw c
 have h:=d.small
 have i:=d.ring
 refine aW func55 ntmps55 ?_;refine aL ?_;refine ao rfl uz rfl (λb a=>wg b s (Chunk.dL _ c a.ext)) ?_;refine ao rfl oy rfl (λb a=>o8 b s.cb s.p.g s.T (tV (Chunk.dL _ c a.ext))) ?_;refine ao rfl jV rfl (λb a=>j3 b (firstT s.T) (we (Chunk.dL _ c a.ext))) ?_;refine al ?_;refine ao rfl oz rfl (λb a=>oK b s.ap (yW (Chunk.dL _ c a.ext)) (XU (Chunk.dL _ c a.ext))) ?_;refine ar ?_;refine ao rfl pH rfl (λb a=>p1 b s.ap (yW (Chunk.dL _ c a.ext))) ?_;refine al ?_;intro j e;exact⟨rfl,e.ext⟩
theorem yX [Inhabited bN] (w:World) (s:bU) {m:Nat} {N:Int} (a:cF s m N) (b: (aU (cS s)).pred w):Calls prog 26 [ptr s.g].toArray w (Pure (ee ⟨s.rows,0⟩) w):=by
 refine aW func26 ntmps26 ?_;refine ah ?_;intro f h i;refine ax ?_;refine ao rfl zD rfl (λc d=>C_ c s a (Chunk.dL _ b d.ext)) ?_;refine al ?_;intro j e;exact⟨rfl,e.ext⟩
def bU.most (s:bU) (n:Nat):Int:=max 0 ((n:Int) - (s.ap.s.l.length:Int))
theorem yY [Inhabited bN] (w:World) (s:bU) {m:Nat} {N:Int} (a:cF s m N) (b: (aU (cS s)).pred w) (A:Option Addr) (n c:Nat) (h:n≤1000000):Calls prog 87 [ptr s.g,.slice A n c].toArray w (Pure (.int .i64 (s.most n)) w):=by
 have i:=a.small
 refine aW func87 ntmps87 ?_;refine aR ?_;refine ao rfl M6 rfl (λd e=>XW d s (Chunk.dL _ b e.ext)) ?_;refine aD ?_;intro j f;exact⟨rfl,f.ext⟩
theorem Km [Inhabited bN] (w:World) (s:bU) {m:Nat} {N:Int} (a:cF s m N) (b: (aU (cS s)).pred w) (A:Option Addr) (n c:Nat) (h:n≤1000000):Calls prog 47 [ptr s.g,.slice A n c].toArray w (cf (λr:Int=> .int .i64 r) (λr=>0≤r∧r≤s.most n) w):=by
 have i:=qw b
 have q:=a.small
 have t:0≤s.most n:=by unfold bU.most;omega
 refine aW func47 ntmps47 ?_;refine bB ?_;refine a7 pE rfl rfl (λu j=>j.bZ i (by (simp;done)) rfl) ?_;refine aq ?_;refine b6 rfl (λk=>?_) (λk=>?_);refine aS ?_;refine ao rfl wL rfl (λd e=>yY d s a (Chunk.dL _ b e.ext) A n c h) ?_;refine al ?_;intro l f;exact aO.bQ _ aa rfl (by simpa [aA] using f);refine ah ?_;refine bF [0,1,2,3,4,5,6] 1 [[(7,false,[8,9,10])]] ?_;refine aS ?_;refine aI rfl (λv o=>(a7 bM rfl rfl (λx p=>by subst p;exact o.bZ i (by (simp;done)) rfl) aC)) ?_;refine aS ?_;refine ao rfl wL rfl (λd e=>yY d s a (Chunk.dL _ b e.ext) A n c h) ?_;refine aJ ?_;intro l f;exact aO.bQ _ aa rfl (by simpa [aA] using f)
end
section
def bU.iz (s:bU):List eV:=ki s.st.abs ⟨s.rows,0⟩
theorem cF.iz [Inhabited bN] {s:bU} {m:Nat} {N:Int} (h:cF s m N):s.iz.length≤10001∧ ∀b∈s.iz,qt b:=by
 have a:=h.st.len
 have c:=h.ring
 have d:=h.small
 refine⟨?_,Wl h.st.wf ⟨⟨?_,?_⟩,?_,?_⟩⟩;rw[bU.iz,CK];simp only[cK.abs,cT];omega
 simp only[bU.rows];omega
 simp only[bU.rows];omega
 exact fQ 0;exact (by decide: (0 :Int)≤4398046511104)
section
variable {w:World} {s:bU}
theorem Kn [Inhabited bN] (h: (aU (cS s)).pred w):s.st.an.pred w:=C8 h _ av
theorem Ko [Inhabited bN] (h: (aU (cS s)).pred w): (eo s.st.A s.st.c s.st.l).pred w:=C8 h _ av
theorem Kp [Inhabited bN] (h: (aU (cS s)).pred w): (eQ s.st.l).pred w:=C8 h _ av
end
theorem yZ [Inhabited bN] (w:World) (s:bU) {m:Nat} {N:Int} (c:cF s m N) (a: (aU (cS s)).pred w):Calls prog 12 [ptr s.g].toArray w (aO (λz:rF=>z.val) [] (λz=>[z.au]) (λz=>z.l=s.iz) w):=by
 have e:=qw a
 have k:=c.st.len
 refine aW func12 ntmps12 ?_;refine dx ?_;refine bF [0,1,2,3,4] 2 [[(5,false,[]),(6,true,[7])]] ?_;refine ah ?_;refine aI rfl (λn f=>(a7 DU rfl rfl (λo h=>by subst h;exact f.bZ e (by (simp;done)) rfl) aC)) ?_;refine ah ?_;refine ao rfl wJ rfl (λd b=>yX d s c (Chunk.dL _ a b.ext)) ?_;refine ah ?_;refine aY (l0:=[]) aB.nil rfl D7 rfl (λd b=>JW d s.st (Chunk.dL _ (Kn a) b.ext) (Chunk.dL _ (Ko a) b.ext) (Chunk.dL _ (Kp a) b.ext) c.st.br aa ⟨s.rows,0⟩) (λz i=>?_);refine aD ?_;intro p j;exact aN z i j
theorem tW [Inhabited bN] (w:World) (s:bU) {m:Nat} {N:Int} (c:cF s m N) (a: (aU (cS s)).pred w) (id:Int):Calls prog 34 [ptr s.g,.int .u64 id].toArray w (Pure (rH (kj s.st.abs id ⟨s.rows,0⟩)) w):=by
 have f:=qw a
 have l:=c.st.len
 have h: ∃v:eV,∃o:Bool,rH (kj s.st.abs id ⟨s.rows,0⟩)= .tuple #[.agg v.enc.toArray,.bool o]:=by
  cases kj s.st.abs id ⟨s.rows,0⟩ with
  | none=>exact⟨_,_,rfl⟩
  | some v=>exact⟨v,true,rfl⟩
 obtain⟨v,o,e⟩:=h;rw[e];refine aW func34 ntmps34 ?_;refine ah ?_;intro n p q;refine b_ ?_;refine bF [0,1,2,3,4,5] 3 [[(6,false,[]),(7,false,[8,9]),(10,true,[11])]] ?_;refine ah ?_;refine aI rfl (λr i=>(a7 DU rfl rfl (λt j=>by subst j;exact i.bZ f (by (simp;done)) rfl) aC)) ?_;refine aS ?_;refine ao rfl wJ rfl (λd b=>yX d s c (Chunk.dL _ a b.ext)) ?_;refine ah ?_;refine ao rfl MB rfl (λd b=>e▸W3 d s.st (Chunk.dL _ (Kn a) b.ext) (Chunk.dL _ (Ko a) b.ext) (Chunk.dL _ (Kp a) b.ext) c.st.br aa id ⟨s.rows,0⟩) ?_;refine ax ?_;refine eW (vs:=v.enc) gy rfl rfl (bn.whole cA bb) rfl (aH.cons rfl (aH.cons rfl (aH.cons rfl (aH.cons rfl (aH.cons rfl (aH.cons rfl (aH.cons rfl (gb rfl rfl rfl rfl rfl rfl rfl rfl rfl rfl)))))))) (by exact dY rfl) ?_;refine al ?_;refine ij results34 (cC.eR gy rfl aQ rfl rfl) (cC.tmp rfl) (λu k=>?_);exact⟨rfl,k.ext⟩
def rK (es:Array MapEntry) (b:eV):Option hb:=if foldI es b.id=0 then none else some ⟨if b.output.dp>0 then b.output.row+1 else b.output.row,b.done.row,b.id⟩
def rL (es:Array MapEntry) (l:List eV):List hb:=l.filterMap (rK es)
theorem XX (es:Array MapEntry) {l:List eV} {i:Nat} {b:eV} (h:l[i]? = some b):rL es (l.take (i+1))=rL es (l.take i)++(rK es b).toList:=by
 unfold rL;rw[gk,h,List.filterMap_append];cases a:rK es b <;> simp[a]
theorem Kq (es:Array MapEntry) (l:List eV): (rL es l).length≤l.length:=List.length_filterMap_le _ _
def bU.fds (s:bU):List hb:=ia s.rows 0 (rL s.es s.iz)
theorem XY [Inhabited bN] (w:World) (s:bU) {m:Nat} {N:Int} (d:cF s m N) (e: (aU (cS s)).pred w):Calls prog 86 [ptr s.g].toArray w (aO (λz:n4=>z.val) [] (λz=>[z.au]) (λz=>z.l=s.fds) w):=by
 have F:=qw e
 have D:=d.iz
 refine aW func86 ntmps86 ?_;refine b_ ?_;refine aY (l0:=[]) aB.nil rfl wI rfl (λa b=>yZ a s d (Chunk.dL _ e b.ext)) (λz p=>?_);refine aS ?_;have T:z.l.length≤10001:=p▸D.1
 refine cL (H':=af w [] [n4.au ⟨none,0,[]⟩,z.au]) ?_ (Sub.refl _) (λx G=>G.eO 244 mm);refine ar ?_;refine b1 (ι:=Nat × n4) (λt=>[(0,ptr s.g),(3,t.2.val),(8,z.val),(9,.int .i64 (z.l.length:Int)),(10,.int .i64 (t.1 :Int))]) (λt=>af w [] [t.2.au,z.au]) (λt=>t.1≤z.l.length∧t.2.l=rL s.es (z.l.take t.1)) (λt=>z.l.length - t.1) ?_ ?_;exact λw' H=>⟨(0,⟨none,0,[]⟩),⟨bP _,rfl⟩,(ea rfl rfl rfl rfl rfl),H.aw ae⟩
 rintro⟨i,y⟩ ⟨hi,f⟩;dsimp only at hi f ⊢
 have U:y.l.length≤i:=by
  have:=Kq s.es (z.l.take i)
  rw[dv] at this
  rw[f];omega
 refine al ?_;refine aj (λI=>?_) (λI=>?_);obtain⟨v,r⟩ : ∃v,z.l[i]? = some v:=⟨_,bG aa⟩;have V:=(D.2 v (p▸dc r)).output
 have n:=XX s.es r
 rw[←f] at n
 refine al ?_;refine jm (E:=ix) bH kq rfl rfl rfl bb aa (λW J=>?_);refine cy (vs:=v.enc) gy rfl rfl rfl (λX K j u L=>K.fO (E:=ix) bH J r j u L) ?_;refine ar ?_;intro Y Z Za;refine eW (vs:=v.enc) gy rfl rfl (bn.whole cA bb) rfl (aH.cons rfl (aH.cons rfl (aH.cons rfl (aH.cons rfl (aH.cons rfl (aH.cons rfl (aH.cons rfl (gb rfl rfl rfl rfl rfl rfl rfl rfl rfl rfl)))))))) (by exact dY rfl) ?_;refine aS ?_;refine bF [0,1,2,3,4,5] 1 [[(6,false,[7])]] ?_;refine ah ?_;refine aI rfl (λZb B=>(a7 LQ rfl rfl (λM C=>by subst C;exact B.bZ F (by (simp;done)) rfl) aC)) ?_;refine aS ?_;refine XS (es:=s.es) (ck:=s.ck) (k:=v.id) underlying71 underlying32 bM d.mp rfl rfl rfl (λM C=>by exact Chunk.dL _ (XV e) C.ext) ?_;refine ax ?_;refine aj (λo=>?_) (λo=>?_);refine aL ?_;exact bg (i+1,y) ⟨aa,by dsimp only;rw[n,rK,ay o];simp⟩ bm bR (λ_ h=>h.aw ae);refine eM ?_;refine aj (λO=>?_) (λO=>?_);refine cI ?_;refine dG (E:=mm) ⟨_,_,_⟩ ow rfl rfl rfl rfl rfl (λP Q R=>?_);refine ew (E:=mm) ow rfl rfl rfl bi (λ_ _=>er) b7 b7 (λZc Zd=>?_);refine aL ?_;exact bg (i+1,⟨_,_,y.l++[⟨_,v.done.row,v.id⟩]⟩) ⟨aa,by dsimp only;rw[n,rK,ag o];rw[ay aa];rfl⟩ bm (ea rfl rfl rfl rfl rfl) (λ_ h=>h.aw ae);refine bp ?_;refine dG (E:=mm) ⟨_,_,_⟩ ow rfl rfl rfl rfl rfl (λP Q R=>?_);refine ew (E:=mm) ow rfl rfl rfl bi (λ_ _=>er) b7 b7 (λZe Zf=>?_);refine aL ?_;exact bg (i+1,⟨_,_,y.l++[⟨_,v.done.row,v.id⟩]⟩) ⟨aa,by dsimp only;rw[n,rK,ag o];rw[ag aa];rfl⟩ bm (ea rfl rfl rfl rfl rfl) (λ_ h=>h.aw ae);refine aL ?_;refine ao rfl zD rfl (λa b=>C_ a s d (Chunk.dL _ e b.ext)) ?_;refine ar ?_;refine aY (l0:=[]) aB.nil rfl M5 rfl (λa b=>W9 a _ y.A y.l.length y.c y.l (gV (b.has (c:=y.au) aQ)) aa s.rows) (λq B=>?_);refine ax ?_;intro Zg S;exact aN q (by rw[B,f,ez aa,p];rfl) S
end
def bU.rM (s:bU):List ju:=mZ s.rows 0 s.fds
theorem Kr: ∀(l:List ju) (a b:Int),kW a l b→a≤b∧ ∀x∈l,a≤x.row∧0≤x.hid∧x.row+max 1 x.hid≤b
 | [],a,b,h=>⟨by unfold kW at h;omega,by simp⟩
 | x::l,a,b,h=>by
  obtain⟨f,g,i,d⟩:=h;obtain⟨j,e⟩:=Kr l _ b d;refine⟨aa,λy c=>?_⟩;rcases eZ.1 c with rfl | c
  omega
  have:=e y c
  omega
theorem cF.rw[Inhabited bN] {s:bU} {m:Nat} {N:Int} (h:cF s m N):0≤s.rows∧s.rows≤200:=by
 have a:=h.ring
 have b:=h.small
 unfold bU.rows;omega
theorem cF.hP {s:bU} {m:Nat} {N:Int} (h:cF s m N): ∀f∈s.fds,f.id≠0:=λf d=>by
 obtain⟨g,i,e,_⟩:=C1 _ _ _ f d;obtain⟨b,_,a⟩:=List.mem_filterMap.1 i;unfold rK at a
 split at a
 cases a
 rename_i j;injection a with a
 subst a;intro c;rw[e] at c
 exact j (by dsimp only at c;rw[c];exact XR h.mp)
theorem cF.right {s:bU}:fz s.rows 0 s.fds=true:=C0 _ _ _
theorem cF.kW [Inhabited bN] {s:bU} {m:Nat} {N:Int} (h:cF s m N):kW 0 s.rM s.rows:=JX _ _ _ h.rw.1 cF.right h.hP
theorem Da (rows:Int): ∀(l:List hb) (e:Int),(ia rows e l).length≤l.length
 | [],_=>ch _
 | f::l,e=>by
  unfold ia;split
  have:=Da rows l (min f.b rows)
  simp only[eK];omega
  have:=Da rows l e
  simp only[eK];omega
theorem cF.XZ [Inhabited bN] {s:bU} {m:Nat} {N:Int} (h:cF s m N):s.fds.length≤10001:=by
 have a:=Da s.rows (rL s.es s.iz) 0
 have b:=Kq s.es s.iz
 have c:=h.iz.1
 unfold bU.fds;omega
theorem cF.Ks [Inhabited bN] {s:bU} {m:Nat} {N:Int} (h:cF s m N):s.rM.length≤200:=by
 have a:=JY s.rows s.fds 0 h.rw.1 cF.right
 have b:=h.rw
 unfold bU.rM;omega
theorem cF.X0 [Inhabited bN] {s:bU} {m:Nat} {N:Int} (h:cF s m N): ∀x∈s.rM,tP x:=λx a=>by
 have b:=(Kr _ _ _ h.kW).2 x a
 have c:=h.rw
 unfold tP;omega
theorem Kt [Inhabited bN] (w:World) (s:bU) {m:Nat} {N:Int} (d:cF s m N) (e: (aU (cS s)).pred w):Calls prog 45 [ptr s.g].toArray w (aO (λz:m5=>z.val) [] (λz=>[z.au]) (λz=>z.l=s.rM) w):=by
 have j:=qw e
 have k:=d.rw
 have n:=d.XZ
 refine aW func45 ntmps45 ?_;refine e4 ?_;refine ao rfl zD rfl (λa b=>C_ a s d (Chunk.dL _ e b.ext)) ?_;refine ar ?_;refine aY (l0:=[]) aB.nil rfl MI rfl (λa b=>XY a s d (Chunk.dL _ e b.ext)) (λy f=>?_);refine aY (l0:=[]) aB.nil rfl MH rfl (λa b=>Xb a _ y.A y.l.length y.c y.l (gV (b.has (c:=y.au) aQ)) (by rw[f];omega) s.rows aa (by rw[f];exact cF.right)) (λz h=>?_);refine cI ?_;intro o i;exact aN z (by rw[h,f];rfl) i
abbrev b9 [Inhabited bN] (s:bU):Chunk:=aU (cS s)
theorem X1 {s:bl} (h:dW s): (∀x∈s.ap.r.rows,x.1.length≤1000000)∧ ∀x∈b0 s.ap.s.l,x.1.length≤1000000:=by
 have ai:c7 s.ap.abs:=h.ok.bE
 refine⟨λx a=>?_,λx a=>?_⟩;have:=(ai.nC x a).1
 have:=ai.cols
 omega
 have:=(ai.wide x a).1
 have:=ai.cols
 omega
theorem Db [Inhabited bN] (w:World) (s:bU) {m:Nat} {N:Int} (k:cF s m N) (i:a8 w [b9 s]):Calls prog 13 [ptr s.g].toArray w (aO (λz:dd=>z.val) [b9 s] (λz=>[b9 s,z.au,z.cj]) (λz=>b0 z.l=s.ap.r.rows++b0 s.ap.s.l) w):=by
 have o: (aU (cS s)).pred w:=i.all _ av
 have d:=k.T.first
 have e:=X1 d
 have j:=d.small
 have c: ∀a,(af w (aA [b9 s]) [b9 s] a)→(aU (cS s)).pred a:=λa b=>b.all _ av
 refine bC func13 ntmps13 i ?_;obtain⟨g,top,dn,cb,p,⟨am,bk,use,ca,cl,bL,buf,aG⟩,st,cx,dq,es,ck⟩:=s;cases use
 refine aL ?_;refine ao rfl uz rfl (λa b=>wg a _ (c a b)) ?_;refine ao rfl oy rfl (λa b=>o8 a _ _ _ (tV (c a b))) ?_;refine ao rfl jV rfl (λa b=>j3 a _ (we (c a b))) ?_;refine ku (lc:=cS ⟨g,top,dn,cb,p,⟨am,bk,false,ca,cl,bL,buf,aG⟩,st,cx,dq,es,ck⟩) bi<| ku (lc:=fg p cb p.g ⟨am,bk,false,ca,cl,bL,buf,aG⟩) cB<| ku (lc:=aP am) pV<| aY (l0:=bD am.ap) ae rfl zA rfl (λa b=>BR a am.ap (b.bo ae) d.g.r e.1 e.2 (by have:am.ap.s.l.length≤100:=j.1;omega)) (λz f=>?_)
 refine ax ?_;intro n h;exact aO.bQ z f rfl ((((h.close (l:=aP am) ae).close (l:=fg p cb p.g ⟨am,bk,false,ca,cl,bL,buf,aG⟩) ae).close (l:=cS ⟨g,top,dn,cb,p,⟨am,bk,false,ca,cl,bL,buf,aG⟩,st,cx,dq,es,ck⟩) ae).aw ae);refine aL ?_;refine ao rfl uz rfl (λa b=>wg a _ (c a b)) ?_;refine ao rfl oy rfl (λa b=>o8 a _ _ _ (tV (c a b))) ?_;refine ao rfl jV rfl (λa b=>j3 a _ (we (c a b))) ?_;refine ku (lc:=cS ⟨g,top,dn,cb,p,⟨am,bk,true,ca,cl,bL,buf,aG⟩,st,cx,dq,es,ck⟩) bi<| ku (lc:=fg p cb p.g ⟨am,bk,true,ca,cl,bL,buf,aG⟩) cB<| ku (lc:=aP bk) nr<| aY (l0:=bD bk.ap) ae rfl zA rfl (λa b=>BR a bk.ap (b.bo ae) d.g.r e.1 e.2 (by have:bk.ap.s.l.length≤100:=j.1;omega)) (λz f=>?_)
 refine ax ?_;intro n h;exact aO.bQ z f rfl ((((h.close (l:=aP bk) ae).close (l:=fg p cb p.g ⟨am,bk,true,ca,cl,bL,buf,aG⟩) ae).close (l:=cS ⟨g,top,dn,cb,p,⟨am,bk,true,ca,cl,bL,buf,aG⟩,st,cx,dq,es,ck⟩) ae).aw ae)
theorem X2 (w:World) (g par:Nat) (T:bK) (a: (eE g par T).pred w):Calls prog 16 [ptr g].toArray w (Pure (.string (bs T.cl)) w):=by
 refine aW func16 ntmps16 ?_;refine hr ?_;refine a7 k6 rfl rfl (λd b=>b.bZ a (by (simp;done)) rfl) ?_;refine ax ?_;intro e c;exact⟨rfl,c.ext⟩
theorem X3 [Inhabited bN] (w:World) (s:bU) {m:Nat} {N:Int} (a:cF s m N) (b:s.cx.most≤12) (c:a8 w [b9 s]):Calls prog 15 [ptr s.g].toArray w
 (aO (λz:dl=>z.val) [b9 s] (λz=>[b9 s,z.au]) (λz=>(z.l.length:Int)≤s.cx.most) w):=by
 refine bC func15 ntmps15 c ?_;refine dx ?_;refine q3 (lc:=cS s) bi ?_;refine ax ?_;refine ku (lc:=e8 s.cx) nr<| aY (l0:=e8 s.cx) ae rfl Mg rfl (λd o=>V5 d s.cx (o.bo ae) a.cx b) (λz e=>?_)
 refine ax ?_;intro h f;exact aO.bQ z e rfl (((f.close (l:=e8 s.cx) ae).close (l:=cS s) ae).aw ae)
end Go.Proofs.YtoghoobfpcadbaaGreatDoor.Mq
