/- part 25 of the proof -/
import Derived.Test.YtlgnfdodnhokjaaGreatDoorQ24
import Derived.Lib.Builder
import Derived.Lib.AppendStr
import Derived.Shelf.Strconv.Itoa3
import Derived.Lib.ItoaLen
namespace Go.Proofs.YtlgnfdodnhokjaaGreatDoor.Mq
open Go Go.RowKit Go.Proofs Tryz
section
structure me where
 told:Bool
 kind:Int
 code:Int
 has:Bool
 text:List UInt8
 row:Int
 cM:Int
 hd:Int
 kf:Int
 sn:Int
abbrev me.enc (c:me):List Value:=[.bool c.told,.int .i64 c.kind,.int .i64 c.code,.bool c.has,.string (bs c.text),.int .i64 c.row,.int .i64 c.cM,.int .i64 c.hd,.int .i64 c.kf,.int .i64 c.sn]
def lw:bA me:=⟨me.enc,10,λ_=>rfl,λ_=>by repeat (first | exact aI.nil | refine aI.cons rfl ?_)⟩
structure n1 where
 A:Option Addr
 c:Nat
 l:List me
abbrev n1.val (r:n1):Value:= .slice r.A r.l.length r.c
abbrev n1.au (r:n1):Chunk:=Mq.au 182 lw r.A r.c r.l
structure bL where
 am:bl
 bk:bl
 use:Bool
 b8:Nat
 cm:List UInt8
 bM:Option Addr
 buf:is
 aF:n1
abbrev bL.b_ (t:bL):Nat:=if t.use=true then t.bk.g else t.am.g
abbrev bL.dP (t:bL):Nat:=if t.use=true then t.am.g else t.bk.g
abbrev bL.B9 (t:bL):Int:=if t.use=true then 1 else 0
abbrev pj (par:Nat) (t:bL):List Value:=[ptr par,ptr t.b_,ptr t.dP,.int .i64 t.B9,.int .u32 (t.b8:Int),.string (bs t.cm),.pointer t.bM,t.buf.val,t.aF.val]
abbrev eN (g par:Nat) (t:bL):Chunk:=aD g (pj par t) 121
abbrev bz (g par:Nat) (X:Chunk) (t:bL):List Chunk:=[eN g par t,aR (aO t.am),aR (aO t.bk),t.buf.au,t.aF.au,X]
theorem IB (s:List UInt8):Lib.strCells (bs s)=cz.all s:=by
 simp only[Lib.strCells,bs,cz,bA.all];induction s with
 | nil=>rfl
 | cons c s a=>simp_all
section
variable {P:Program} {n:Nat} {ops:Array Oper} {Q:cq} {rest:List Oper} {l:Fr} {d:Nat} {ty:TypeId} {pos:String} {a7:Array Edge}
variable {b:World} {S:List Nat} {cs:List Chunk}
theorem IC {a:Op} (v:Value) (ak:Nat.blt d n=true) (e: ∀c w,mH l c→af b S cs w→(execOp c ⟨some d,a,ty,pos,a7,none⟩).run P w= .ok (.value v) w)
 (h:az P n ops Q rest ((d,v)::l) (af b S cs)):az P n ops Q (⟨some d,a,ty,pos,a7,none⟩::rest) l (af b S cs):=sm v ak e h
theorem B_ {w:World} {g:Nat} {xs:List Value} {t:TypeId} (h: (aD g xs t).pred w):w.shape? g=some (t,xs.length):=by
 have a:w.heap[g]? = some (.cells xs.toArray t (0,0)):=h
 simp[World.shape?,a]
theorem ID {src a t te:TypeId} {j:TypeInfo} {x:Operand} {g o:Nat} {xs:List Value} (c:P.underlying src=some (.pointer t)) (e:P.underlying a=some .unsafePointer) (f:P.info? t=some j) (i:j.size≠0) (k:Has cs (aD g xs te)) (m:o<xs.length)
 (ak:Nat.blt d n=true) (p:ba l x=some (.pointer (some ⟨g,o,none⟩)))
 (h:az P n ops Q rest ((d,.pointer (some ⟨g,o,none⟩))::l) (af b S cs)):az P n ops Q (⟨some d,.convert src a x,ty,pos,a7,none⟩::rest) l (af b S cs):=
 IC _ ak (λs w q r=>by
  simp only[execOp,q x _ p];have:=Lib.run_to_unsafe (P:=P) w ⟨g,o,none⟩ c e f i (B_ (r.has k)) m
  simp[this]) h
theorem IE {src a u te:TypeId} {j:TypeInfo} {x:Operand} {g o m:Nat} {xs:List Value} (c:P.underlying src=some .unsafePointer) (e:P.underlying a=some (.pointer u)) (f:P.info? u=some j) (i:Has cs (aD g xs te)) (k:xs.length=m) (p:liesAt P P.depth te (m/P.cellsOf te) o u 1=true)
 (ak:Nat.blt d n=true) (q:ba l x=some (.pointer (some ⟨g,o,none⟩)))
 (h:az P n ops Q rest ((d,.pointer (some ⟨g,o,none⟩))::l) (af b S cs)):az P n ops Q (⟨some d,.convert src a x,ty,pos,a7,none⟩::rest) l (af b S cs):=
 IC _ ak (λt w r s=>by
  simp only[execOp,r x _ q];have:=Lib.run_from_unsafe (P:=P) w ⟨g,o,none⟩ c e f (B_ (s.has i)) (by rw[k];exact p)
  simp[this]) h
theorem IF {H:World→Prop} {cv dx te:TypeId} {j:TypeInfo} {x y:Operand} {a:Addr} (ai:P.underlying cv=some (.pointer te)) (c:P.info? te=some j) (ak:Nat.blt d n=true) (e:ba l x=some (.pointer (some a))) (f:ba l y=some (.pointer (some a)))
 (h:az P n ops Q rest ((d,.bool false)::l) H):az P n ops Q (⟨some d,.binOp .neq cv x y dx,ty,pos,a7,none⟩::rest) l H:=
 dd _ ak (λg w b=>by
  have:=Lib.run_neq_ptr_same (P:=P) w a ai c
  simp[execOp,b x _ e,b y _ f,eqGuard,this]) h
theorem IG {x y:Operand} {t u e:Nat} {A:Option Addr} {c:Nat} {L s:List UInt8} {cs':Option Addr→Nat→List Chunk} (v:c6 P t e 1 1 [.int .u8 0]) (K: (P.info? e).bind (·.zero)=some (.int .u8 0)) (D:P.underlying u=some .string) (ak:Nat.blt d n=true)
 (W:ba l x=some (.slice A L.length c)) (X:ba l y=some (.string (bs s)))
 (M: ∀a c',bn cs (au e cz A c L) (au e cz a c' (L++s)) (cs' a c')) (Zh:L.length+s.length≤140737488355328)
 (h: ∀a c',az P n ops Q rest ((d,.slice a (L++s).length c')::l) (af b S (cs' a c'))):
 az P n ops Q (⟨some d,.call ⟨.builtin .append,#[x,y],#[t,u]⟩,ty,pos,a7,none⟩::rest) l (af b S cs):=by
 obtain⟨i,fs,z,Zi,Zj,E,G⟩:=v.inf;have H:i.zero=some (.int .u8 0):=by rw[z] at K;exact K
 refine hD ak λZk w N O=>?_
 have F:w.ownsRow 0 e 1 (.slice A L.length c) L.length (cz.all L):=O.has (M A c).has
 obtain⟨p,w',q,o,B,R⟩ : ∃p w',(Builtin.append_ #[t,u] ty #[.slice A L.length c,.string (bs s)]).run P w= .ok p w'∧w'.ownsRow 0 e 1 p (L.length+s.length) (cz.all (L++s))∧w.grownBy w' (Value.slice A L.length c).ownBlock∧(∀k,p.ownBlock=some k→(Value.slice A L.length c).ownBlock=some k∨w.heap.size≤k):=by
  have m:=hH s
  have T:cz.all (L++s)=cz.all L++Lib.strCells (bs s):=by rw[IB,bA.all_append]
  rcases F.2 with ⟨I,Y⟩ | ⟨g,cap,am,I,_,U,Zl,Zm,Zn,Z⟩
  have Za:w.ownsRow w.heap.size e 1 (.slice A L.length c) L.length (cz.all L):=⟨F.1,.inl ⟨I,Y⟩⟩
  obtain⟨p,w',q,o,B,_⟩:=Lib.run_append_own_string (P:=P) (w:=w) w.heap.size t u ty e i v.fe D z H E G (.slice A L.length c) L.length (cz.all L) Za (bs s) (by rw[m];simp only[maxLen];omega) (by rw[m];omega) (bW _);rw[m] at o
  refine⟨p,w',q,?_,B,λk f=> .inr ?_⟩;rw[T];refine⟨o.1,?_⟩;rcases o.2 with h | ⟨g,cap,am,h⟩
  exact .inl h;exact .inr ⟨g,cap,am,h.1,bP _,h.2.2⟩;rcases o.2 with ⟨h,_⟩ | ⟨g,cap,am,h,Zo,_⟩
  rw[h] at f;simp[Value.ownBlock] at f
  rw[h] at f
  simp only[Value.ownBlock,dA] at f
  omega
  injection I with Zb Zp Zc
  subst Zb;subst Zc
  obtain⟨p,w',q,o,B,_⟩:=Lib.run_append_own_string (P:=P) (w:=w) 0 t u ty e i v.fe D z H E G (.slice (some ⟨g,0,none⟩) L.length c) L.length (cz.all L) F (bs s) (by rw[m];simp only[maxLen];omega) (by rw[m];omega) (bP _);rw[m] at o
  refine⟨p,w',q,by rw[T];exact o,B,λk f=>?_⟩;by_cases Zd:L.length+s.length≤c
  have C:=Lib.run_append_room_string (P:=P) (w:=w) t u ty e i v.fe D z E g L.length c am U (bs s) (by rw[m];exact Zd) (by rw[m];omega)
  rw[q] at C
  injection C with J Ze
  rw[J] at f
  exact .inl f;have C:=Lib.run_append_grow_string (P:=P) (w:=w) t u ty e i (.int .u8 0) v.fe D z H ⟨g,0,none⟩ L.length c (cz.all L) (by rw[E];simpa using F.1) (λj x r=>by
   rw[Addr.add_lit,cell_of_row w g (0+j) am e (0,0) U,dE];have Zq:=(cK.1 r).1
   rw[←Z] at r
   rw[iD] at r
   split at r
   simpa using r
   cases r) (bs s) (by rw[m];omega) (by rw[m];omega) (by rw[G,m];exact growslice_fits aa aa)
  rw[q] at C
  injection C with J Ze
  rw[J] at f
  simp only[Value.ownBlock,dA] at f
  exact .inr aa
 obtain⟨a,c',Zf⟩:=Ib (e:=e) (sz:=1) o;have V:p= .slice a (L++s).length c':=by rw[Zf,b6]
 rw[V] at q R
 have Zg: (au e cz a c' (L++s)).pred w':=by
  show w'.ownsRow 0 e cz.sz (.slice a (L++s).length c') (L++s).length (cz.all (L++s))
  rw[←V,b6];exact o
 refine⟨.slice a (L++s).length c',w',?_,(h a c').at (O.ie (M a c') (Ext.uz B) Zg ?_ ?_)⟩;simp[execOp,resolve,invoke,builtin,N x _ W,N y _ X]
 simp only[b6] at q
 simp[q]
 intro k f;replace f: (Value.slice a (L++s).length c').ownBlock=some k:=jb.1 f
 rcases R k f with h | h
 exact .inl (jb.2 h);exact .inr h;show (Value.slice a (L++s).length c').ownBlock.toList.Nodup
 cases (Value.slice a (L++s).length c').ownBlock <;> simp
end
def Ca (g:Nat) (t:bL):Prop:=t.bM=none∨t.bM=some ⟨g,6,none⟩
abbrev Cb (g:Nat) (t:bL):bL:={ t with bM:=some ⟨g,6,none⟩ }
abbrev IH (g:Nat):Value:= .pointer (some ⟨g,6,none⟩)
theorem T6 (w:World) (g par:Nat) (t:bL) (d:a8 w [eN g par t]) (c:Ca g t):Calls prog 66 [IH g].toArray w
 (aP (λ_:Unit=> .tuple #[]) [eN g par t] (λ_=>[eN g par (Cb g t)]) (λ_=>True) w):=by
 have hi: ∃j,prog.info? 77=some j∧j.size≠0:=by
  have h: (prog.info? 77).map (λj=>Nat.beq j.size 0)=some false:=by kernel_rfl
  cases a:prog.info? 77 with
  | none=>rw[a] at h;cases h
  | some j=>
   rw[a] at h
   refine⟨j,rfl,λf=>?_⟩;simp[f] at h
 obtain⟨j,a,i⟩:=hi;have k:liesAt prog prog.depth 121 (9/prog.cellsOf 121) 6 77 1=true:=by kernel_rfl
 obtain⟨am,bk,use,b8,cm,bM,buf,aF⟩:=t;have l:bM=none∨bM=some ⟨g,6,none⟩:=c
 clear c;refine calls (n:=20) func66 rfl ntmps66 rfl ?_;refine cH ?_ (Sub.refl _) d.start;rcases l with rfl | rfl
 refine bH ?_;refine ID underlying75 underlying218 a i (xs:=_) aT (show 6<9 by decide) rfl rfl ?_;refine xh rfl rfl (λq _=>by rw[run_callFunc_extern func107 ab ab ab (e:=Extern.AbiNoEscape.same) ab];rw[Lib.run_noEscape];rfl) ?_;refine IE (m:=9) (o:=6) underlying218 underlying75 a (xs:=_) aT rfl k rfl rfl ?_;refine ay ?_;intro p b;exact aN () a1 b;refine ey ?_;refine IF underlying75 a rfl rfl rfl ?_;refine ay ?_;intro p b;exact aN () a1 b
theorem Cc (w:World) (g par:Nat) (t:bL) (a:a8 w [eN g par t,t.buf.au]) (b:Ca g t) (s:List UInt8) (c:t.buf.l.length+s.length≤140737488355328):Calls prog 33 [IH g,.string (bs s)].toArray w
 (aP (λ_:is=> .tuple #[.int .i64 (s.length:Int),.nilIface]) [eN g par t,t.buf.au] (λz=>[eN g par { Cb g t with buf:=z },z.au]) (λz=>z.l=t.buf.l++s) w):=by
 refine bI func33 ntmps33 a ?_;refine aJ ?_;refine cJ (λd e=>T6 d g par t e b) (λ_ _=>?_);refine aQ ?_;refine IG ft ab underlying9 rfl rfl rfl (λ_ _=>ew) c (λdG c9=>?_);refine cF ?_;intro h f;exact aN ⟨dG,c9,t.buf.l++s⟩ rfl f
structure dU (s:bl):Prop where
 g:dR s
 ok:dX s.abs
 small:s.ap.s.l.length≤100∧s.ap.cols≤100∧s.ap.r.room≤100
abbrev firstT (t:bL):bl:=if t.use=true then t.bk else t.am
structure cp (g:Nat) (R:Int) (m:Nat) (t:bL):Prop where
 am:dU t.am
 bk:dU t.bk
 room: (firstT t).ap.r.room=R
 bM:Ca g t
 cm:t.cm.length≤256
 bf:t.am.ap.bf.l.length+t.bk.ap.bf.l.length+t.aF.l.length≤m
 buf:t.buf.l.length≤m
 aF: ∀c∈t.aF.l,c.text.length≤256
 md:t.b8<4294967296
theorem cp.mono {g:Nat} {R:Int} {m k:Nat} {t:bL} (h:cp g R m t) (a:m≤k):cp g R k t:=⟨h.am,h.bk,h.room,h.bM,h.cm,by have:=h.bf;omega,by have:=h.buf;omega,h.aF,h.md⟩
theorem gm.room {k:Nat} {s z:bl} (h:gm k s z):z.ap.r.room=s.ap.r.room:=h.kept.room
theorem gm.ok {k:Nat} {s z:bl} (h:gm k s z) (a:dU s):dU z:=by
 have b:=h.kept.rows
 have c:z.ap.cols=s.ap.cols:=h.kept.cols
 rw[l6,l6] at b
 exact⟨h.wf,h.kept.wf a.ok,by rw[b,c,h.room];exact a.small⟩
theorem cp.rB {g:Nat} {R:Int} {m k:Nat} {t:bL} {z:bl} (h:cp g R m t) (a:gm k t.am z):cp g R (m+k) { t with am:=z }:=by
 refine⟨a.ok h.am,h.bk,?_,h.bM,h.cm,?_,by have:=h.buf;dsimp only;omega,h.aF,h.md⟩;have:=h.room
 unfold firstT at this ⊢
 dsimp only;split
 rename_i b;rwa [aw b] at this
 rename_i b;rw[ag b] at this;rw[a.room];exact this
 have c:=h.bf
 have d:z.ap.bf.l.length≤t.am.ap.bf.l.length+k:=a.kept.bf
 dsimp only;omega
theorem cp.T7 {g:Nat} {R:Int} {m k:Nat} {t:bL} {z:bl} (h:cp g R m t) (a:gm k t.bk z):cp g R (m+k) { t with bk:=z }:=by
 refine⟨h.am,a.ok h.bk,?_,h.bM,h.cm,?_,by have:=h.buf;dsimp only;omega,h.aF,h.md⟩;have:=h.room
 unfold firstT at this ⊢
 dsimp only;split
 rename_i b;rw[aw b] at this;rw[a.room];exact this
 rename_i b;rwa [ag b] at this
 have c:=h.bf
 have d:z.ap.bf.l.length≤t.bk.ap.bf.l.length+k:=a.kept.bf
 dsimp only;omega
theorem rC {g par:Nat} {t:bL} {z:bl} (h:z.g=t.am.g):eN g par { t with am:=z } = eN g par t:=by
 simp only[eN,pj,bL.b_,bL.dP,bL.B9,h]
theorem T8 {g par:Nat} {t:bL} {z:bl} (h:z.g=t.bk.g):eN g par { t with bk:=z } = eN g par t:=by
 simp only[eN,pj,bL.b_,bL.dP,bL.B9,h]
def hy (g par:Nat) (X:Chunk) (R:Int) (m:Nat) (v:Value) (T:bL) (w:World):Ending→World→Prop:=aP (λ_:bL=>v) (bz g par X T) (bz g par X) (cp g R m) w
theorem fk (w:World) (g par:Nat) (T:bL) (d: (eN g par T).pred w):Calls prog 163 [ptr g].toArray w (Pure (ptr T.am.g) w):=by
 obtain⟨am,bk,use,b8,cm,bM,buf,aF⟩:=T;refine aV func163 ntmps163 ?_;cases use with
 | false=>
  refine dB ?_;refine bF [0,1,2,3,4,5,6,7,8,9] 0 [[]] ?_;refine aS ?_;refine aL rfl (λc a=>(a_ bN rfl rfl (λe b=>by subst b;exact a.bU d (by (simp;done)) rfl) aG)) ?_;refine aq ?_;refine aL rfl (λc a=>(qW (q:=0) underlying115 pL rfl rfl rfl bc aa aG)) ?_;refine aL rfl (λc a=>(a_ q2 rfl rfl (λe b=>by subst b;exact a.bU (o:=1) d av rfl) aG)) ?_;refine al ?_;intro h f;exact⟨rfl,f.ext⟩
 | true=>
  refine dB ?_;refine bF [0,1,2,3,4,5,6,7,8,9] 0 [[]] ?_;refine aS ?_;refine aL rfl (λc a=>(a_ bN rfl rfl (λe b=>by subst b;exact a.bU d (by (simp;done)) rfl) aG)) ?_;refine aq ?_;refine aL rfl (λc a=>(qW (q:=1) underlying115 pL rfl rfl rfl bc aa aG)) ?_;refine aL rfl (λc a=>(a_ q2 rfl rfl (λe b=>by subst b;exact a.bU (o:=2) d av rfl) aG)) ?_;refine al ?_;intro h f;exact⟨rfl,f.ext⟩
theorem qp (w:World) (g par:Nat) (T:bL) (a: (eN g par T).pred w):Calls prog 24 [ptr g].toArray w (Pure (ptr (firstT T).g) w):=by
 obtain⟨am,bk,use,b8,cm,bM,buf,aF⟩:=T;refine aV func24 ntmps24 ?_;refine hq ?_;refine qW (q:=0) underlying115 pL rfl rfl rfl bc aa ?_;refine a_ q2 rfl rfl (λd b=>b.bU (o:=1) a av rfl) ?_;refine ay ?_;intro e c;exact⟨by cases use <;> rfl,c.ext⟩
end
section
theorem eo.k {k:Nat} {s:bl} {v:Value} {q:be} {w w':World} {e:Ending} (h:eo s v q w e w') (a:cS k s.abs q):dY k s v w e w':=aP.mono h (λi hi=>⟨i,hi.hd a,rfl,rfl⟩)
section
variable {w:World} {s:bl}
theorem T9 (b:a8 w (aO s)) (a:dU s):Calls prog 165 [ptr s.g].toArray w (dY 0 s (.tuple #[]) w):=(Se w s b a.g a.ok).mono (λ_ _ h=>h.k (Sd _))
theorem II (b:a8 w (aO s)) (a:dU s) (c:s.ap.bf.l.length≤1000000000000):Calls prog 167 [ptr s.g].toArray w (dY 2 s (.tuple #[]) w):=(x5 w s b a.g a.ok aa).mono (λ_ _ h=>h.k (td _))
theorem tG (a:a8 w (aO s)) (b:dU s):Calls prog 169 [ptr s.g].toArray w (dY 0 s (.tuple #[]) w):=(HO w s a b.g).mono (λ_ _ h=>h.k (tj _))
theorem rD (b:a8 w (aO s)) (a:dU s) (y x:Int):Calls prog 247 [ptr s.g,.int .i64 y,.int .i64 x].toArray w (dY 0 s (.tuple #[]) w):=(HP w s b a.g a.ok y x).mono (λ_ _ h=>h.k (HM _ _ _))
theorem n2 (b:a8 w (aO s)) (a:dU s) (y x:Int):Calls prog 246 [ptr s.g,.int .i64 y,.int .i64 x].toArray w (dY 0 s (.tuple #[]) w):=(Sz w s b a.g a.ok y x).mono (λ_ _ h=>h.k (Sw _ _ _))
theorem IJ (b:a8 w (aO s)) (a:dU s) (y x:Int):Calls prog 258 [ptr s.g,.int .i64 y,.int .i64 x].toArray w (dY 0 s (.tuple #[]) w):=(St w s b a.g a.ok y x).mono (λ_ _ h=>h.k (Sr _ _ _))
theorem IK (a:a8 w (aO s)) (b:dU s) (p x h:Bool):Calls prog 332 [ptr s.g,.agg [.bool p,.bool x,.bool h].toArray].toArray w (dY 0 s (.tuple #[]) w):=(Su w s a b.g p x h).mono (λ_ _ h=>h.k (tm _ _))
theorem n3 (a:a8 w (aO s)) (b:dU s) (c:fZ):Calls prog 170 [ptr s.g,.agg c.enc.toArray].toArray w (dY 0 s (.tuple #[]) w):=(Sx w s a b.g c).mono (λ_ _ h=>h.k (tm _ _))
theorem T_ (b:a8 w (aO s)) (a:dU s) (k:Int):Calls prog 239 [ptr s.g,.int .i64 k].toArray w (dY 0 s (.tuple #[]) w):=(Bn w s b a.g a.ok k).mono (λ_ _ h=>h.k (vu _ _))
theorem pk (b:a8 w (aO s)) (a:dU s) (c:s.ap.bf.l.length≤1000000000000) (k:Int):Calls prog 238 [ptr s.g,.int .i64 k].toArray w (dY 1 s (.tuple #[]) w):=(SC w s b a.g a.ok aa k).mono (λ_ _ h=>h.k (SB _ _))
theorem Ua (b:a8 w (aO s)) (a:dU s) (k:Int):Calls prog 248 [ptr s.g,.int .i64 k].toArray w (dY 0 s (.tuple #[]) w):=(Si w s b a.g a.ok k).mono (λ_ _ h=>h.k (Sf _ _))
theorem Ub (b:a8 w (aO s)) (a:dU s) (k:Int):Calls prog 251 [ptr s.g,.int .i64 k].toArray w (dY 0 s (.tuple #[]) w):=(Sj w s b a.g a.ok k).mono (λ_ _ h=>h.k (Sg _ _))
theorem Uc (b:a8 w (aO s)) (a:dU s) (k:Int):Calls prog 253 [ptr s.g,.int .i64 k].toArray w (dY 0 s (.tuple #[]) w):=(Sk w s b a.g a.ok k).mono (λ_ _ h=>h.k (Sh _ _))
theorem Ud (b:a8 w (aO s)) (a:dU s) (c:s.ap.bf.l.length≤1000000000000) (k:Int):Calls prog 249 [ptr s.g,.int .i64 k].toArray w (dY 2000 s (.tuple #[]) w):=(Sp w s b a.g a.ok aa k).mono (λ_ _ h=>h.k (Sl _ (tl a.ok) _))
theorem Ue (b:a8 w (aO s)) (a:dU s) (c:s.ap.bf.l.length≤1000000000000) (k:Int):Calls prog 250 [ptr s.g,.int .i64 k].toArray w (dY 2000 s (.tuple #[]) w):=(Sq w s b a.g a.ok aa k).mono (λ_ _ h=>h.k (Sm _ (tl a.ok) _))
theorem IL (b:a8 w (aO s)) (a:dU s) (c:s.ap.bf.l.length≤1000000000000) (k:Int):Calls prog 252 [ptr s.g,.int .i64 k].toArray w (dY 2000 s (.tuple #[]) w):=(So w s b a.g a.ok aa k).mono (λ_ _ h=>h.k (Sn _ (tl a.ok) _))
theorem Uf (b:a8 w (aO s)) (a:dU s) (c:s.ap.bf.l.length≤1000000000000) (k:Int):Calls prog 254 [ptr s.g,.int .i64 k].toArray w (dY 2000000 s (.tuple #[]) w):=(SG w s b a.g a.ok aa k).mono (λ_ _ h=>h.k (SF _ _ a.ok))
theorem tH (b:a8 w (aO s)) (a:dU s):Calls prog 220 [ptr s.g].toArray w (dY 0 s (.tuple #[]) w):=(TO w s b a.g a.ok).mono (λ_ _ h=>h.k (Sv _))
theorem Ug (b:a8 w (aO s)) (a:dU s):Calls prog 315 [ptr s.g].toArray w (dY 0 s (.tuple #[]) w):=(S1 w s b a.g a.ok).mono (λ_ _ h=>h.k (SY _))
theorem Cd (b:a8 w (aO s)) (a:dU s):Calls prog 243 [ptr s.g].toArray w (dY 0 s (.tuple #[]) w):=(SW w s b a.g a.ok.bD).mono (λ_ _ h=>h.k (ST _))
theorem Uh (b:a8 w (aO s)) (a:dU s) (c:s.ap.bf.l.length≤1000000000000):Calls prog 222 [ptr s.g].toArray w (dY 2 s (.tuple #[]) w):=(R8 w s b a.g a.ok aa).mono (λ_ _ h=>h.k (R4 _))
theorem Ui (bs:List Bool) (x:Nat) (h:x<bs.length):cN.jp bs x<bs.length:=cN.Hj x aa
theorem Uj (bs:List Bool) (x:Nat) (h:x<bs.length):cN.iQ bs x<bs.length:=by have:=cN.Bi bs x;omega
theorem Uk (n:Nat) (x:Int) (h:0<n):cN.xT n x<n:=by unfold cN.xT;omega
theorem vk {f:Nat→Nat} {n:Nat} (a: ∀x,x<n→f x<n): ∀k x,x<n→cN.iter f k x<n
 | 0,_,h=>h
 | k+1,x,h=>a _ (vk a k x h)
theorem IM {f:Nat→Nat} {len:Nat} (a: ∀x,x<len→f x<len) (x n:Int) (h:0<len):cN.nP f len x n<len:=vk a _ _ (Uk _ _ h)
theorem Ul (s:bl) (a:dU s) (n:Int):cS 0 s.abs (tr s.abs n):=by
 have b:=a.g.n
 have f:=(a.ok.nums).2.1
 have c:0<s.st.bs.length:=by omega
 have d:=IM (Ui s.st.bs) (fE s.abs) n c
 have e:=IM (Uj s.st.bs) (fE s.abs) (max 0 (0 - max n (-1000))) c
 unfold tr;split
 exact cS.refl _;split
 refine o4 _ (λ_=>?_);show _∧_≤s.ap.cols
 rw[←b];exact⟨r3 _,Int.ofNat_le.2 (Nat.le_of_lt d)⟩;refine o4 _ (λ_=>?_);show _∧_≤s.ap.cols
 rw[←b];exact⟨r3 _,Int.ofNat_le.2 (Nat.le_of_lt e)⟩
theorem Ce (b:a8 w (aO s)) (a:dU s) (c: ∀w',Ext (aB (aO s)) w w'→cN.mV w') (k:Int):Calls prog 166 [ptr s.g,.int .i64 k].toArray w (dY 0 s (.tuple #[]) w):=(SD w s b c a.g a.ok k).mono (λ_ _ h=>h.k (Ul s a k))
end
end
end Go.Proofs.YtlgnfdodnhokjaaGreatDoor.Mq
namespace Go.Proofs.YtlgnfdodnhokjaaGreatDoor.Mq.du
open Go Go.RowKit Go.Proofs Tryz
def Cf:Shelf.Ren:=⟨λ| 129=>294 | 171=>330 | 243=>389 | 246=>421 | 283=>440 | 284=>441 | 285=>442 | 286=>443 | 317=>456 | 318=>457 | 319=>458 | 320=>459 | 337=>469 | 338=>379 | n=>n,λ| 0=>0 | 2=>2 | 3=>3 | 4=>4 | 5=>5 | 9=>9 | 20=>20 | 37=>51 | 46=>268 | 51=>116 | 53=>54 | 171=>437 | 173=>439 | 212=>446 | 213=>447 | 232=>463 | 233=>427 | n=>n,λ| 17=>2 | 18=>7 | 19=>0 | n=>n⟩
theorem Cg:LaysM.n171 prog Cf where
 mixed:=by kernel_rfl
 f129:=func294.trans (aU some ab)
 f171:=func330.trans (aU some ab)
 f243:=func389.trans (aU some ab)
 f246:=func421.trans (aU some ab)
 f283:=func440.trans (aU some ab)
 f284:=func441.trans (aU some ab)
 f285:=func442.trans (aU some ab)
 f286:=func443.trans (aU some ab)
 f317:=func456.trans (aU some ab)
 f318:=func457.trans (aU some ab)
 f319:=func458.trans (aU some ab)
 f320:=func459.trans (aU some ab)
 f337:=func469.trans (aU some ab)
 f338:=func379.trans (aU some ab)
 t0:=underlying0
 a0:=isAgg0
 z0:=sizeOf0
 v0:=zeroValue0
 t2:=underlying2
 a2:=isAgg2
 z2:=sizeOf2
 v2:=zeroValue2
 t3:=underlying3
 a3:=isAgg3
 z3:=sizeOf3
 v3:=zeroValue3
 t4:=underlying4
 a4:=isAgg4
 z4:=sizeOf4
 v4:=zeroValue4
 t5:=underlying5
 a5:=isAgg5
 z5:=sizeOf5
 v5:=zeroValue5
 t9:=underlying9
 a9:=isAgg9
 z9:=sizeOf9
 v9:=zeroValue9
 t20:=underlying20
 a20:=isAgg20
 z20:=sizeOf20
 v20:=zeroValue20
 t37:=underlying51
 a37:=isAgg51
 z37:=sizeOf51
 v37:=zeroValue51
 t46:=underlying268
 a46:=isAgg268
 z46:=sizeOf268
 v46:=zeroValue268
 t51:=underlying116
 a51:=isAgg116
 z51:=sizeOf116
 v51:=zeroValue116
 t53:=underlying54
 a53:=isAgg54
 z53:=sizeOf54
 v53:=zeroValue54
 t171:=underlying437
 a171:=isAgg437
 z171:=sizeOf437
 v171:=zeroValue437
 t173:=underlying439
 a173:=isAgg439
 z173:=sizeOf439
 v173:=zeroValue439
 t212:=underlying446
 a212:=isAgg446
 z212:=sizeOf446
 v212:=zeroValue446
 t213:=underlying447
 a213:=isAgg447
 z213:=sizeOf447
 t232:=underlying463
 a232:=isAgg463
 z232:=sizeOf463
 v232:=zeroValue463
 t233:=underlying427
 a233:=isAgg427
 z233:=sizeOf427
 v233:=zeroValue427
 g17:=by kernel_rfl
 g18:=by kernel_rfl
 g19:=by kernel_rfl
 i0:=by kernel_rfl
 i2:=by kernel_rfl
 i3:=by kernel_rfl
 i4:=by kernel_rfl
 i5:=by kernel_rfl
 i9:=by kernel_rfl
 i20:=by kernel_rfl
 i37:=by kernel_rfl
 i46:=by kernel_rfl
 i51:=by kernel_rfl
 i53:=by kernel_rfl
 i171:=by kernel_rfl
 i173:=by kernel_rfl
 i212:=by kernel_rfl
 i232:=by kernel_rfl
 i233:=by kernel_rfl
 m17:=by kernel_rfl
 m18:=by kernel_rfl
 m19:=by kernel_rfl
def fF (w:World):Prop:=Lib.TabIs prog w "internal/strconv.uint64pow10" .u64 Lib.pow10Tab
theorem vJ {P:Program} {w w':World} {nm:String} {k:IntKind} {b:List Int} (h:Lib.TabIs P w nm k b) (c:Ext [] w w'):Lib.TabIs P w' nm k b:=by
 unfold Lib.TabIs World.var? at *
 obtain⟨g,d,a⟩:=lP.1 h;refine lP.2 ⟨g,d,?_⟩;have e:g<w.heap.size:=by
  rcases ej g w.heap.size with h | h
  exact h;rw[r2 h] at a;cases a
 rw[c.block g e av];exact a
theorem fF.ext {w w':World} (h:fF w) (a:Ext [] w w'):fF w':=vJ h a
theorem Ch (w:World) (k:Nat) (os:Array Obj):Ext [] w (Sort.grow (w.drewN k) os):=by
 refine⟨rfl,rfl,rfl,?_,λb a _=>?_⟩;show w.heap.size≤(w.heap++os).size
 simp
 show (w.heap++os)[b]? = w.heap[b]?
 rw[uk a]
theorem vK (w:World) (a:fF w) (n:Int) (h: -9223372036854775808≤n∧n≤9223372036854775807):
 Calls prog 330 [.int .i64 n].toArray w (λe w'=>e= .returned (.string (bs (Lib.itoa n)))∧Ext [] w w'):=by
 refine Calls.mono (Any.strconv_Itoa Cg n h.1 h.2 w a) ?_;rintro e w' ⟨rfl,k,os,rfl⟩;exact⟨rfl,Ch w k os⟩
theorem vL:ad prog 330:=ad.of func330 ab ab
def rE:List Int:=[4,20,1,5,6,7,25,47,66,1000,1002,1003,1004,1006,1047,1048,1049,2004]
abbrev yt:List Value:=rE.map (Value.int .i64)
def kR (p:Bool) (n:Int) (i:Nat):Bool:=decide (rE[i]? = some n) && (p == decide (2≤i))
def g_ (p:Bool) (n:Int):Option Nat:=(List.range 18).find? (kR p n)
def kg (p:Bool) (n:Int):Int:=match g_ p n with | some k=>(k:Int) | none=> -1
theorem yu {p:Bool} {n:Int} {k:Nat} (h:g_ p n=some k):k<18:=by
 have:=List.mem_of_find?_eq_some h
 simpa using this
theorem Um {p:Bool} {n:Int} {k:Nat} (h:g_ p n=some k):kR p n k=true:=List.find?_some h
theorem Un {p:Bool} {n:Int} {i j:Nat} (hi:kR p n i=true) (a:kR p n j=true):i=j:=by
 have b: ∀i,i<18→ ∀j,j<18→rE[i]? = rE[j]? →i=j:=by decide
 simp only[kR,d4,e9] at hi a
 have c:=(cK.1 hi.1).1
 have d:=(cK.1 a.1).1
 exact b i c j d (hi.1.trans a.1.symm)
theorem Uo {p:Bool} {n:Int} {k:Nat} (h:kR p n k=true):g_ p n=some k:=by
 have b:k<18:=by
  simp only[kR,d4,e9] at h
  exact (cK.1 h.1).1
 cases a:g_ p n with
 | none=>
  have:=List.find?_eq_none.1 a k (by simpa using b)
  exact absurd h this
 | some j=>rw[Un h (Um a)]
theorem Up {p:Bool} {n:Int} (h: ∀j,j<18→kR p n j=false):g_ p n=none:=by
 refine List.find?_eq_none.2 λj a=>?_
 rw[h j (by simpa using a)];simp
theorem qq (w:World):Calls prog 208 [].toArray w (λe w'=>e= .returned (.agg yt.toArray)∧Ext [] w w'):=by
 refine aV func208 ntmps208 ?_;refine ah ?_;intro b c d;refine ay ?_;refine e3 ME rfl rfl cA bc (aI.cons rfl (aI.cons rfl (aI.cons rfl (aI.cons rfl (aI.cons rfl (aI.cons rfl (aI.cons rfl (aI.cons rfl (gg rfl rfl rfl rfl rfl rfl rfl rfl rfl rfl))))))))) (dV rfl) ?_;refine aS ?_;intro f a;exact⟨rfl,a.ext⟩
theorem sU (w:World) (p:Bool) (n:Int):Calls prog 156 [.bool p,.int .i64 n].toArray w (λe w'=>e= .returned (.int .i64 (kg p n))∧Ext [] w w'):=by
 refine aV func156 ntmps156 ?_;refine aK ?_;refine ao rfl N5 rfl (λw' _=>qq w') ?_;refine aS ?_;refine b2 (ι:=Nat) (λi=>[(0,.bool p),(1,.int .i64 n),(7,.agg yt.toArray),(8,.int .i64 (i:Int))]) (λ_=>af w [] []) (λi=>i≤18∧ ∀j,j<i→kR p n j=false) (λi=>18 - i) ?_ ?_;exact λw a=>⟨0,⟨aa,by intro j l;omega⟩,(cj rfl rfl rfl rfl),a⟩
 rintro i ⟨hi,c⟩;refine al ?_;refine aj (λo=>?_) (λo=>?_);obtain⟨x,m⟩ : ∃x,rE[i]? = some x:=⟨rE[i]'(by simp[rE];omega),bE _⟩;have r:yt[i]? = some (.int .i64 x):=by rw[yt,eD,m];rfl
 refine aC ?_;refine lT (q:=i) underlying300 bN rfl rfl rfl aa aa r ?_;refine aQ ?_;have s:decide (2≤i)=decide ((2 :Int)≤(i:Int)):=by rw[gQ];omega
 have d:kR p n i=(decide (x=n) && (p == decide ((2 :Int)≤(i:Int)))):=by simp only[kR,m,s,dA]
 refine aW 15 rfl (λf=>?_) (λf=>?_);have b:=aX f
 refine aC ?_;refine zw underlying4 rfl rfl rfl ?_;refine ah ?_;refine aj (λg=>?_) (λg=>?_);refine bH ?_;intro t a;refine⟨?_,a.ext⟩;have ai:kR p n i=true:=by rw[d,b];simpa using g
 rw[kg,Uo ai];refine aC ?_;have ai:kR p n i=false:=by rw[d,b];simpa using g
 refine bi (i+1) ⟨aa,λj l=>?_⟩ aa (cj rfl rfl rfl rfl) (λw' k=>k);rcases ej j i with h | h
 exact c j h;obtain rfl:j=i:=by omega
 exact ai;have b:=bd f
 refine cF ?_;have ai:kR p n i=false:=by rw[d];simp only[um];exact .inl (by simpa using b)
 refine bi (i+1) ⟨aa,λj l=>?_⟩ aa (cj rfl rfl rfl rfl) (λw' k=>k);rcases ej j i with h | h
 exact c j h;obtain rfl:j=i:=by omega
 exact ai;have u:i=18:=by omega
 subst u;refine bx ?_;intro t a;refine⟨?_,a.ext⟩;rw[kg,Up c]
theorem Uq (p:Bool) (n:Int): -1≤kg p n∧kg p n<18:=by
 unfold kg;split
 rename_i k a;have:=yu a
 omega
 omega
theorem Ur (w:World) (p:Bool) (n:Int):Calls prog 241 [.bool p,.int .i64 n].toArray w (λe w'=>e= .returned (.bool (g_ p n).isSome)∧Ext [] w w'):=by
 refine aV func241 ntmps241 ?_;refine aJ ?_;refine ao rfl z1 rfl (λw' _=>sU w' p n) ?_;refine al ?_;intro b a;refine⟨?_,a.ext⟩;unfold kg;cases g_ p n with
 | some k=>simp
 | none=>simp
abbrev tI (b:Nat):Value:= .agg #[.int .u32 (b:Int)]
def cT (b:Nat) (p:Bool) (n:Int) (a:Bool):Nat:=
 match g_ p n with
 | none=>b
 | some k=>if a then b ||| 2 ^ k else b &&& (4294967295 - 2 ^ k)
theorem pm {b:Nat} (h:b<4294967296) (p:Bool) (n:Int) (a:Bool):cT b p n a<4294967296:=by
 unfold cT;split
 exact h;rename_i k c;have:=yu c
 split
 exact ox (n:=32) h (qS aZ aa);exact qP Nat.and_le_left h
theorem IN {k:Nat} (b:k<18):IntKind.u32.wrap (1*2 ^ min ((k:Int)).toNat IntKind.u32.bits)=((2 ^ k:Nat):Int):=by
 have a:2 ^ k<4294967296:=qS (n:=32) aZ aa
 rw[fV,iG (by simp only[IntKind.bits];omega),Int.one_mul];have: ((2 :Int) ^ k)=((2 ^ k:Nat):Int):=by simp
 rw[this];exact xg (r3 _) (Int.ofNat_lt.2 a)
theorem oQ (w:World) (b:Nat) (d:b<4294967296) (p:Bool) (n:Int) (g:Bool):
 Calls prog 111 [tI b,.bool p,.int .i64 n,.bool g].toArray w (λe w'=>e= .returned (tI (cT b p n g))∧Ext [] w w'):=by
 have x:=Uq p n
 refine aV func111 ntmps111 ?_;refine ah ?_;intro y z A;refine ar ?_;intro B C D;refine al ?_;refine ao rfl z1 rfl (λw' _=>sU w' p n) ?_;refine bx ?_;refine aj (λa=>?_) (λa=>?_);refine bp ?_;intro q c;refine⟨?_,c.ext⟩;unfold cT;unfold kg at a
 cases h:g_ p n with
 | none=>rfl
 | some k=>rw[h] at a;simp at a;omega
 obtain⟨k,f⟩ : ∃k,g_ p n=some k:=by
  unfold kg at a
  cases h:g_ p n with
  | none=>rw[h] at a;simp at a
  | some k=>exact⟨k,rfl⟩
 have t:kg p n=(k:Int):=by rw[kg,f]
 have s:=yu f
 rw[t];refine al ?_;have i:2 ^ k<4294967296:=qS (n:=32) aZ aa
 have u:b ||| 2 ^ k<4294967296:=ox (n:=32) d i
 have v:b &&& (4294967295 - 2 ^ k)<4294967296:=qP Nat.and_le_left d
 refine b1 rfl (λj=>?_) (λj=>?_);refine bF [0,1,2,3,4,5] 1 [[(6,true,[])]] ?_;refine ah ?_;refine aL rfl (λl o=>(oN (r:=((2 ^ k:Nat):Int)) rfl rfl rfl aa (IN s) aG)) ?_;refine aL rfl (λl o=>(mN (r:=((b ||| 2 ^ k:Nat):Int)) rfl rfl rfl (or_eq (m:=b) (n:=2 ^ k) rfl rfl d i (xg (r3 _) (Int.ofNat_lt.2 u))) aG)) ?_;refine ey ?_;intro q c;refine⟨?_,c.ext⟩;rw[cT,f,j];rfl
 refine bF [0,1,2,3,4,5] 1 [[(6,true,[])]] ?_;refine ah ?_;refine aL rfl (λl o=>(oN (r:=((2 ^ k:Nat):Int)) rfl rfl rfl aa (IN s) aG)) ?_;refine aL rfl (λl o=>(uT (r:=((b &&& (4294967295 - 2 ^ k):Nat):Int)) rfl rfl rfl (FS (m:=b) (n:=2 ^ k) rfl rfl d i (xg (r3 _) (Int.ofNat_lt.2 v))) aG)) ?_;refine ey ?_;intro q c;refine⟨?_,c.ext⟩;rw[cT,f];have:g=false:=by simpa using j
 rw[this];rfl
def Ci (b k:Nat):Bool:=decide (b/2 ^ k%2=1)
def rF (b:Nat) (p:Bool) (n:Int):Bool:=match g_ p n with | some k=>Ci b k | none=>false
theorem Us (b k:Nat) (a:b<4294967296):IntKind.u32.wrap ((BitVec.ofInt IntKind.u32.bits ((b:Int)/2 ^ min ((k:Int)).toNat 32) &&& BitVec.ofInt IntKind.u32.bits 1).toNat:Int)=((b/2 ^ min k 32%2 :Nat):Int):=by
 have c:b/2 ^ min k 32<4294967296:=qP (Nat.div_le_self _ _) a
 refine and_eq (m:=b/2 ^ min k 32) (n:=1) ?_ rfl c aZ ?_;rw[fV,Int.natCast_ediv];simp
 rw[Nat.and_one_is_mod];exact xg aa aa
theorem qs (w:World) (b:Nat) (f:b<4294967296) (p:Bool) (n:Int):
 Calls prog 168 [tI b,.bool p,.int .i64 n].toArray w (λe w'=>e= .returned (.bool (rF b p n))∧Ext [] w w'):=by
 refine aV func168 ntmps168 ?_;refine ah ?_;intro i j l;refine aC ?_;refine ao rfl z1 rfl (λw' _=>sU w' p n) ?_;refine aK ?_;cases a:g_ p n with
 | none=>
  have c:kg p n= -1:=by rw[kg,a]
  rw[c];refine bx ?_;intro g d;exact⟨by rw[rF,a],d.ext⟩
 | some k=>
  have c:kg p n=(k:Int):=by rw[kg,a]
  have m:=yu a
  rw[c];refine cC rfl rfl av ?_;refine ar ?_;refine cC rfl rfl av ?_;refine ar ?_;refine cC rfl rfl av ?_;refine ar ?_;refine cC rfl rfl av ?_;refine pY rfl rfl rfl aa rfl ?_;refine cC rfl rfl av ?_;refine rb rfl rfl rfl (Us b k f) ?_;refine cC rfl rfl av ?_;refine ar ?_;refine zt rfl rfl av rfl ?_;refine ay ?_;intro g d;refine⟨?_,d.ext⟩;have h:decide (((b/2 ^ k%2 :Nat):Int)=1)=Ci b k:=by
   rw[Ci,gQ];exact Int.ofNat_inj (n:=1)
  rw[rF,a,iG aa,h]
def tJ (p:Bool) (n:Int):List UInt8:=(if p then [63] else [])++Lib.itoa n
theorem IO (p:Bool) (n:Int) (h: -9223372036854775808≤n∧n≤9223372036854775807): (tJ p n).length≤22:=by
 have:=Lib.itoa_length_le n h.1 h.2
 unfold tJ;rw[b6];split <;> simp <;> omega
theorem Cj (w:World) (d:fF w) (p:Bool) (n:Int) (h: -9223372036854775808≤n∧n≤9223372036854775807):
 Calls prog 242 [.bool p,.int .i64 n].toArray w (λe w'=>e= .returned (.string (bs (tJ p n)))∧Ext [] w w'):=by
 have g:=Lib.itoa_length_le n h.1 h.2
 refine aV func242 ntmps242 ?_;refine bp ?_;refine b1 rfl (λa=>?_) (λa=>?_);refine ah ?_;refine ao rfl vL rfl (λw' b=>vK w' (d.ext b.ext) n h) ?_;refine eJ rfl rfl rfl b4 ?_;refine al ?_;intro f c;exact⟨by rw[tJ,aw a],c.ext⟩;refine ay ?_;refine ao rfl vL rfl (λw' b=>vK w' (d.ext b.ext) n h) ?_;refine ay ?_;intro f c;exact⟨by rw[tJ,ag (by simp[a])];rfl,c.ext⟩
def pn:Nat:=96
theorem Ut:cT (cT 0 true 7 true) true 25 true=pn:=by decide
theorem vm (w:World):Calls prog 70 [].toArray w (λe w'=>e= .returned (tI pn)∧Ext [] w w'):=by
 refine aV func70 ntmps70 ?_;refine ah ?_;intro c d f;refine ay ?_;refine ao rfl q7 rfl (λw' a=>oQ w' 0 aZ true 7 true) ?_;refine ao rfl q7 rfl (λw' a=>oQ w' _ (pm aZ _ _ _) true 25 true) ?_;rw[Ut];refine ay ?_;intro g b;exact⟨rfl,b.ext⟩
def qt (b:Nat) (p:Bool) (n:Int):List UInt8:=[27,91]++tJ p n++[59]++[if rF b p n then 49 else if (g_ p n).isSome then 50 else 48]++[36,121]
theorem IP (w:World) (f:fF w) (b:Nat) (j:b<4294967296) (p:Bool) (n:Int) (h: -9223372036854775808≤n∧n≤9223372036854775807):
 Calls prog 181 [tI b,.bool p,.int .i64 n].toArray w (λe w'=>e= .returned (.string (bs (qt b p n)))∧Ext [] w w'):=by
 have k:=IO p n h
 refine aV func181 ntmps181 ?_;refine ah ?_;intro l m o;refine cF ?_;refine ao rfl nr rfl (λw' a=>qs w' b j p n) ?_;refine ah ?_;refine b1 rfl (λd=>?_) (λd=>?_);refine aJ ?_;refine ao rfl Ac rfl (λw' a=>Cj w' (f.ext a.ext) p n h) ?_;refine eJ rfl rfl rfl b4 ?_;refine eJ rfl rfl rfl b4 ?_;refine ar ?_;refine eJ rfl rfl rfl b4 ?_;refine eJ rfl rfl rfl b4 ?_;refine ay ?_;intro i c;exact⟨by rw[qt,aw d],c.ext⟩;refine aS ?_;refine ao rfl Og rfl (λw' a=>Ur w' p n) ?_;refine ah ?_;refine b1 rfl (λg=>?_) (λg=>?_);refine aJ ?_;refine ao rfl Ac rfl (λw' a=>Cj w' (f.ext a.ext) p n h) ?_;refine eJ rfl rfl rfl b4 ?_;refine eJ rfl rfl rfl b4 ?_;refine ar ?_;refine eJ rfl rfl rfl b4 ?_;refine eJ rfl rfl rfl b4 ?_;refine ay ?_;intro i c;exact⟨by rw[qt,ag (by simp[d]),aw g],c.ext⟩;refine aC ?_;refine ao rfl Ac rfl (λw' a=>Cj w' (f.ext a.ext) p n h) ?_;refine eJ rfl rfl rfl b4 ?_;refine eJ rfl rfl rfl b4 ?_;refine ar ?_;refine eJ rfl rfl rfl b4 ?_;refine eJ rfl rfl rfl b4 ?_;refine ay ?_;intro i c;exact⟨by rw[qt,ag (by simp[d]),ag (by simp[g])],c.ext⟩
end Go.Proofs.YtlgnfdodnhokjaaGreatDoor.Mq.du
