/- part 24 of the proof -/
import Derived.Test.YtoghoobfpcadbaaGreatDoorQ23
import Derived.Lib.Builder
import Derived.Lib.AppendStr
import Derived.Shelf.Strconv.Itoa3
import Derived.Lib.ItoaLen
namespace Go.Proofs.YtoghoobfpcadbaaGreatDoor.Mq
open Go Go.RowKit Go.Proofs Tryz
section
structure jJ where
 told:Bool
 kind:Int
 code:Int
 has:Bool
 text:List UInt8
 row:Int
 dp:Int
 gX:Int
 ka:Int
 jK:Int
abbrev jJ.enc (c:jJ):List Value:=[.bool c.told,.int .i64 c.kind,.int .i64 c.code,.bool c.has,.string (bs c.text),.int .i64 c.row,.int .i64 c.dp,.int .i64 c.gX,.int .i64 c.ka,.int .i64 c.jK]
def lv:bx jJ:=⟨jJ.enc,10,λ_=>rfl,λ_=>by repeat (first | exact aH.nil | refine aH.cons rfl ?_)⟩
structure nR where
 A:Option Addr
 c:Nat
 l:List jJ
abbrev nR.val (r:nR):Value:= .slice r.A r.l.length r.c
abbrev nR.au (r:nR):Chunk:=Mq.au 169 lv r.A r.c r.l
structure bK where
 am:bl
 bk:bl
 use:Bool
 ca:Nat
 cl:List UInt8
 bL:Option Addr
 buf:is
 aG:nR
abbrev bK.cc (t:bK):Nat:=if t.use=true then t.bk.g else t.am.g
abbrev bK.dS (t:bK):Nat:=if t.use=true then t.am.g else t.bk.g
abbrev bK.BT (t:bK):Int:=if t.use=true then 1 else 0
abbrev o7 (par:Nat) (t:bK):List Value:=[ptr par,ptr t.cc,ptr t.dS,.int .i64 t.BT,.int .u32 (t.ca:Int),.string (bs t.cl),.pointer t.bL,t.buf.val,t.aG.val]
abbrev eE (g par:Nat) (t:bK):Chunk:=aE g (o7 par t) 84
abbrev bz (g par:Nat) (X:Chunk) (t:bK):List Chunk:=[eE g par t,aU (aP t.am),aU (aP t.bk),t.buf.au,t.aG.au,X]
theorem HX (s:List UInt8):Lib.strCells (bs s)=cD.all s:=by
 simp only[Lib.strCells,bs,cD,bx.all];induction s with
 | nil=>rfl
 | cons c s a=>simp_all
section
variable {P:Program} {n:Nat} {ops:Array Oper} {Q:cq} {rest:List Oper} {l:Fr} {d:Nat} {ty:TypeId} {pos:String} {a6:Array Edge}
variable {b:World} {S:List Nat} {cs:List Chunk}
theorem HY {a:Op} (v:Value) (ak:Nat.blt d n=true) (e: ∀c w,mz l c→af b S cs w→(execOp c ⟨some d,a,ty,pos,a6,none⟩).run P w= .ok (.value v) w)
 (h:az P n ops Q rest ((d,v)::l) (af b S cs)):az P n ops Q (⟨some d,a,ty,pos,a6,none⟩::rest) l (af b S cs):=r_ v ak e h
theorem BU {w:World} {g:Nat} {xs:List Value} {t:TypeId} (h: (aE g xs t).pred w):w.shape? g=some (t,xs.length):=by
 have a:w.heap[g]? = some (.cells xs.toArray t (0,0)):=h
 simp[World.shape?,a]
theorem HZ {src a t te:TypeId} {j:TypeInfo} {x:Operand} {g o:Nat} {xs:List Value} (c:P.underlying src=some (.pointer t)) (e:P.underlying a=some .unsafePointer) (f:P.info? t=some j) (i:j.size≠0) (k:Has cs (aE g xs te)) (m:o<xs.length)
 (ak:Nat.blt d n=true) (p:ba l x=some (.pointer (some ⟨g,o,none⟩)))
 (h:az P n ops Q rest ((d,.pointer (some ⟨g,o,none⟩))::l) (af b S cs)):az P n ops Q (⟨some d,.convert src a x,ty,pos,a6,none⟩::rest) l (af b S cs):=
 HY _ ak (λs w q r=>by
  simp only[execOp,q x _ p];have:=Lib.run_to_unsafe (P:=P) w ⟨g,o,none⟩ c e f i (BU (r.has k)) m
  simp[this]) h
theorem H0 {src a u te:TypeId} {j:TypeInfo} {x:Operand} {g o m:Nat} {xs:List Value} (c:P.underlying src=some .unsafePointer) (e:P.underlying a=some (.pointer u)) (f:P.info? u=some j) (i:Has cs (aE g xs te)) (k:xs.length=m) (p:liesAt P P.depth te (m/P.cellsOf te) o u 1=true)
 (ak:Nat.blt d n=true) (q:ba l x=some (.pointer (some ⟨g,o,none⟩)))
 (h:az P n ops Q rest ((d,.pointer (some ⟨g,o,none⟩))::l) (af b S cs)):az P n ops Q (⟨some d,.convert src a x,ty,pos,a6,none⟩::rest) l (af b S cs):=
 HY _ ak (λt w r s=>by
  simp only[execOp,r x _ q];have:=Lib.run_from_unsafe (P:=P) w ⟨g,o,none⟩ c e f (BU (s.has i)) (by rw[k];exact p)
  simp[this]) h
theorem H1 {H:World→Prop} {cv dD te:TypeId} {j:TypeInfo} {x y:Operand} {a:Addr} (ai:P.underlying cv=some (.pointer te)) (c:P.info? te=some j) (ak:Nat.blt d n=true) (e:ba l x=some (.pointer (some a))) (f:ba l y=some (.pointer (some a)))
 (h:az P n ops Q rest ((d,.bool false)::l) H):az P n ops Q (⟨some d,.binOp .neq cv x y dD,ty,pos,a6,none⟩::rest) l H:=
 df _ ak (λg w b=>by
  have:=Lib.run_neq_ptr_same (P:=P) w a ai c
  simp[execOp,b x _ e,b y _ f,eqGuard,this]) h
theorem H2 {x y:Operand} {t u e:Nat} {A:Option Addr} {c:Nat} {L s:List UInt8} {cs':Option Addr→Nat→List Chunk} (v:c6 P t e 1 1 [.int .u8 0]) (K: (P.info? e).bind (·.zero)=some (.int .u8 0)) (D:P.underlying u=some .string) (ak:Nat.blt d n=true)
 (W:ba l x=some (.slice A L.length c)) (X:ba l y=some (.string (bs s)))
 (M: ∀a c',bn cs (au e cD A c L) (au e cD a c' (L++s)) (cs' a c')) (Zh:L.length+s.length≤140737488355328)
 (h: ∀a c',az P n ops Q rest ((d,.slice a (L++s).length c')::l) (af b S (cs' a c'))):
 az P n ops Q (⟨some d,.call ⟨.builtin .append,#[x,y],#[t,u]⟩,ty,pos,a6,none⟩::rest) l (af b S cs):=by
 obtain⟨i,fj,z,Zi,Zj,E,G⟩:=v.inf;have H:i.zero=some (.int .u8 0):=by rw[z] at K;exact K
 refine hD ak λZk w N O=>?_
 have F:w.ownsRow 0 e 1 (.slice A L.length c) L.length (cD.all L):=O.has (M A c).has
 obtain⟨p,w',q,o,B,R⟩ : ∃p w',(Builtin.append_ #[t,u] ty #[.slice A L.length c,.string (bs s)]).run P w= .ok p w'∧w'.ownsRow 0 e 1 p (L.length+s.length) (cD.all (L++s))∧w.grownBy w' (Value.slice A L.length c).ownBlock∧(∀k,p.ownBlock=some k→(Value.slice A L.length c).ownBlock=some k∨w.heap.size≤k):=by
  have m:=hH s
  have T:cD.all (L++s)=cD.all L++Lib.strCells (bs s):=by rw[HX,bx.all_append]
  rcases F.2 with ⟨I,Y⟩ | ⟨g,cap,am,I,_,U,Zl,Zm,Zn,Z⟩
  have Za:w.ownsRow w.heap.size e 1 (.slice A L.length c) L.length (cD.all L):=⟨F.1,.inl ⟨I,Y⟩⟩
  obtain⟨p,w',q,o,B,_⟩:=Lib.run_append_own_string (P:=P) (w:=w) w.heap.size t u ty e i v.e_ D z H E G (.slice A L.length c) L.length (cD.all L) Za (bs s) (by rw[m];simp only[maxLen];omega) (by rw[m];omega) (ch _);rw[m] at o
  refine⟨p,w',q,?_,B,λk f=> .inr ?_⟩;rw[T];refine⟨o.1,?_⟩;rcases o.2 with h | ⟨g,cap,am,h⟩
  exact .inl h;exact .inr ⟨g,cap,am,h.1,bP _,h.2.2⟩;rcases o.2 with ⟨h,_⟩ | ⟨g,cap,am,h,Zo,_⟩
  rw[h] at f;simp[Value.ownBlock] at f
  rw[h] at f
  simp only[Value.ownBlock,dI] at f
  omega
  injection I with Zb Zp Zc
  subst Zb;subst Zc
  obtain⟨p,w',q,o,B,_⟩:=Lib.run_append_own_string (P:=P) (w:=w) 0 t u ty e i v.e_ D z H E G (.slice (some ⟨g,0,none⟩) L.length c) L.length (cD.all L) F (bs s) (by rw[m];simp only[maxLen];omega) (by rw[m];omega) (bP _);rw[m] at o
  refine⟨p,w',q,by rw[T];exact o,B,λk f=>?_⟩;by_cases Zd:L.length+s.length≤c
  have C:=Lib.run_append_room_string (P:=P) (w:=w) t u ty e i v.e_ D z E g L.length c am U (bs s) (by rw[m];exact Zd) (by rw[m];omega)
  rw[q] at C
  injection C with J Ze
  rw[J] at f
  exact .inl f;have C:=Lib.run_append_grow_string (P:=P) (w:=w) t u ty e i (.int .u8 0) v.e_ D z H ⟨g,0,none⟩ L.length c (cD.all L) (by rw[E];simpa using F.1) (λj x r=>by
   rw[Addr.add_lit,cell_of_row w g (0+j) am e (0,0) U,dA];have Zq:=(cY.1 r).1
   rw[←Z] at r
   rw[iB] at r
   split at r
   simpa using r
   cases r) (bs s) (by rw[m];omega) (by rw[m];omega) (by rw[G,m];exact growslice_fits aa aa)
  rw[q] at C
  injection C with J Ze
  rw[J] at f
  simp only[Value.ownBlock,dI] at f
  exact .inr aa
 obtain⟨a,c',Zf⟩:=Hw (e:=e) (sz:=1) o;have V:p= .slice a (L++s).length c':=by rw[Zf,b8]
 rw[V] at q R
 have Zg: (au e cD a c' (L++s)).pred w':=by
  show w'.ownsRow 0 e cD.sz (.slice a (L++s).length c') (L++s).length (cD.all (L++s))
  rw[←V,b8];exact o
 refine⟨.slice a (L++s).length c',w',?_,(h a c').at (O.ic (M a c') (Ext.uo B) Zg ?_ ?_)⟩;simp[execOp,resolve,invoke,builtin,N x _ W,N y _ X]
 simp only[b8] at q
 simp[q]
 intro k f;replace f: (Value.slice a (L++s).length c').ownBlock=some k:=i_.1 f
 rcases R k f with h | h
 exact .inl (i_.2 h);exact .inr h;show (Value.slice a (L++s).length c').ownBlock.toList.Nodup
 cases (Value.slice a (L++s).length c').ownBlock <;> simp
end
def BV (g:Nat) (t:bK):Prop:=t.bL=none∨t.bL=some ⟨g,6,none⟩
abbrev BW (g:Nat) (t:bK):bK:={ t with bL:=some ⟨g,6,none⟩ }
abbrev H3 (g:Nat):Value:= .pointer (some ⟨g,6,none⟩)
theorem Tp (w:World) (g par:Nat) (t:bK) (d:a8 w [eE g par t]) (c:BV g t):Calls prog 125 [H3 g].toArray w
 (aO (λ_:Unit=> .tuple #[]) [eE g par t] (λ_=>[eE g par (BW g t)]) (λ_=>True) w):=by
 have hi: ∃j,prog.info? 81=some j∧j.size≠0:=by
  have h: (prog.info? 81).map (λj=>Nat.beq j.size 0)=some false:=by kernel_rfl
  cases a:prog.info? 81 with
  | none=>rw[a] at h;cases h
  | some j=>
   rw[a] at h
   refine⟨j,rfl,λf=>?_⟩;simp[f] at h
 obtain⟨j,a,i⟩:=hi;have k:liesAt prog prog.depth 84 (9/prog.cellsOf 84) 6 81 1=true:=by kernel_rfl
 obtain⟨am,bk,use,ca,cl,bL,buf,aG⟩:=t;have l:bL=none∨bL=some ⟨g,6,none⟩:=c
 clear c;refine calls (n:=20) func125 rfl ntmps125 rfl ?_;refine cL ?_ (Sub.refl _) d.start;rcases l with rfl | rfl
 refine bI ?_;refine HZ underlying79 underlying286 a i (xs:=_) aQ (show 6<9 by decide) rfl rfl ?_;refine w7 rfl rfl (λq _=>by rw[run_callFunc_extern func192 ab ab ab (e:=Extern.AbiNoEscape.same) ab];rw[Lib.run_noEscape];rfl) ?_;refine H0 (m:=9) (o:=6) underlying286 underlying79 a (xs:=_) aQ rfl k rfl rfl ?_;refine ax ?_;intro p b;exact aN () aT b;refine et ?_;refine H1 underlying79 a rfl rfl rfl ?_;refine ax ?_;intro p b;exact aN () aT b
theorem BX (w:World) (g par:Nat) (t:bK) (a:a8 w [eE g par t,t.buf.au]) (b:BV g t) (s:List UInt8) (c:t.buf.l.length+s.length≤140737488355328):Calls prog 72 [H3 g,.string (bs s)].toArray w
 (aO (λ_:is=> .tuple #[.int .i64 (s.length:Int),.nilIface]) [eE g par t,t.buf.au] (λz=>[eE g par { BW g t with buf:=z },z.au]) (λz=>z.l=t.buf.l++s) w):=by
 refine bC func72 ntmps72 a ?_;refine aJ ?_;refine cE (λd e=>Tp d g par t e b) (λ_ _=>?_);refine aR ?_;refine H2 fk ab underlying9 rfl rfl rfl (λ_ _=>er) c (λdF c9=>?_);refine cI ?_;intro h f;exact aN ⟨dF,c9,t.buf.l++s⟩ rfl f
structure dW (s:bl):Prop where
 g:dT s
 ok:d4 s.abs
 small:s.ap.s.l.length≤100∧s.ap.cols≤100∧s.ap.r.room≤100
abbrev firstT (t:bK):bl:=if t.use=true then t.bk else t.am
structure cp (g:Nat) (R:Int) (m:Nat) (t:bK):Prop where
 am:dW t.am
 bk:dW t.bk
 room: (firstT t).ap.r.room=R
 bL:BV g t
 cl:t.cl.length≤256
 be:t.am.ap.be.l.length+t.bk.ap.be.l.length+t.aG.l.length≤m
 buf:t.buf.l.length≤m
 aG: ∀c∈t.aG.l,c.text.length≤256
 md:t.ca<4294967296
theorem cp.mono {g:Nat} {R:Int} {m k:Nat} {t:bK} (h:cp g R m t) (a:m≤k):cp g R k t:=⟨h.am,h.bk,h.room,h.bL,h.cl,by have:=h.be;omega,by have:=h.buf;omega,h.aG,h.md⟩
theorem gi.room {k:Nat} {s z:bl} (h:gi k s z):z.ap.r.room=s.ap.r.room:=h.kept.room
theorem gi.ok {k:Nat} {s z:bl} (h:gi k s z) (a:dW s):dW z:=by
 have b:=h.kept.rows
 have c:z.ap.cols=s.ap.cols:=h.kept.cols
 rw[lY,lY] at b
 exact⟨h.wf,h.kept.wf a.ok,by rw[b,c,h.room];exact a.small⟩
theorem cp.rp {g:Nat} {R:Int} {m k:Nat} {t:bK} {z:bl} (h:cp g R m t) (a:gi k t.am z):cp g R (m+k) { t with am:=z }:=by
 refine⟨a.ok h.am,h.bk,?_,h.bL,h.cl,?_,by have:=h.buf;dsimp only;omega,h.aG,h.md⟩;have:=h.room
 unfold firstT at this ⊢
 dsimp only;split
 rename_i b;rwa [ay b] at this
 rename_i b;rw[ag b] at this;rw[a.room];exact this
 have c:=h.be
 have d:z.ap.be.l.length≤t.am.ap.be.l.length+k:=a.kept.be
 dsimp only;omega
theorem cp.Tq {g:Nat} {R:Int} {m k:Nat} {t:bK} {z:bl} (h:cp g R m t) (a:gi k t.bk z):cp g R (m+k) { t with bk:=z }:=by
 refine⟨h.am,a.ok h.bk,?_,h.bL,h.cl,?_,by have:=h.buf;dsimp only;omega,h.aG,h.md⟩;have:=h.room
 unfold firstT at this ⊢
 dsimp only;split
 rename_i b;rw[ay b] at this;rw[a.room];exact this
 rename_i b;rwa [ag b] at this
 have c:=h.be
 have d:z.ap.be.l.length≤t.bk.ap.be.l.length+k:=a.kept.be
 dsimp only;omega
theorem rq {g par:Nat} {t:bK} {z:bl} (h:z.g=t.am.g):eE g par { t with am:=z } = eE g par t:=by
 simp only[eE,o7,bK.cc,bK.dS,bK.BT,h]
theorem Tr {g par:Nat} {t:bK} {z:bl} (h:z.g=t.bk.g):eE g par { t with bk:=z } = eE g par t:=by
 simp only[eE,o7,bK.cc,bK.dS,bK.BT,h]
def hy (g par:Nat) (X:Chunk) (R:Int) (m:Nat) (v:Value) (T:bK) (w:World):Ending→World→Prop:=aO (λ_:bK=>v) (bz g par X T) (bz g par X) (cp g R m) w
theorem fe (w:World) (g par:Nat) (T:bK) (d: (eE g par T).pred w):Calls prog 159 [ptr g].toArray w (Pure (ptr T.am.g) w):=by
 obtain⟨am,bk,use,ca,cl,bL,buf,aG⟩:=T;refine aW func159 ntmps159 ?_;cases use with
 | false=>
  refine dx ?_;refine bF [0,1,2,3,4,5,6,7,8,9] 0 [[]] ?_;refine aS ?_;refine aI rfl (λc a=>(a7 bM rfl rfl (λe b=>by subst b;exact a.bZ d (by (simp;done)) rfl) aC)) ?_;refine aq ?_;refine aI rfl (λc a=>(qN (q:=0) underlying75 pG rfl rfl rfl bb aa aC)) ?_;refine aI rfl (λc a=>(a7 qS rfl rfl (λe b=>by subst b;exact a.bZ (o:=1) d av rfl) aC)) ?_;refine al ?_;intro h f;exact⟨rfl,f.ext⟩
 | true=>
  refine dx ?_;refine bF [0,1,2,3,4,5,6,7,8,9] 0 [[]] ?_;refine aS ?_;refine aI rfl (λc a=>(a7 bM rfl rfl (λe b=>by subst b;exact a.bZ d (by (simp;done)) rfl) aC)) ?_;refine aq ?_;refine aI rfl (λc a=>(qN (q:=1) underlying75 pG rfl rfl rfl bb aa aC)) ?_;refine aI rfl (λc a=>(a7 qS rfl rfl (λe b=>by subst b;exact a.bZ (o:=2) d av rfl) aC)) ?_;refine al ?_;intro h f;exact⟨rfl,f.ext⟩
theorem o8 (w:World) (g par:Nat) (T:bK) (a: (eE g par T).pred w):Calls prog 10 [ptr g].toArray w (Pure (ptr (firstT T).g) w):=by
 obtain⟨am,bk,use,ca,cl,bL,buf,aG⟩:=T;refine aW func10 ntmps10 ?_;refine hr ?_;refine qN (q:=0) underlying75 pG rfl rfl rfl bb aa ?_;refine a7 qS rfl rfl (λd b=>b.bZ (o:=1) a av rfl) ?_;refine ax ?_;intro e c;exact⟨by cases use <;> rfl,c.ext⟩
end
section
theorem ej.k {k:Nat} {s:bl} {v:Value} {q:bd} {w w':World} {e:Ending} (h:ej s v q w e w') (a:cR k s.abs q):d8 k s v w e w':=aO.mono h (λi hi=>⟨i,hi.gX a,rfl,rfl⟩)
section
variable {w:World} {s:bl}
theorem Ts (b:a8 w (aP s)) (a:dW s):Calls prog 161 [ptr s.g].toArray w (d8 0 s (.tuple #[]) w):=(Ry w s b a.g a.ok).mono (λ_ _ h=>h.k (Rx _))
theorem H4 (b:a8 w (aP s)) (a:dW s) (c:s.ap.be.l.length≤1000000000000):Calls prog 163 [ptr s.g].toArray w (d8 2 s (.tuple #[]) w):=(xS w s b a.g a.ok aa).mono (λ_ _ h=>h.k (s0 _))
theorem tt (a:a8 w (aP s)) (b:dW s):Calls prog 165 [ptr s.g].toArray w (d8 0 s (.tuple #[]) w):=(G9 w s a b.g).mono (λ_ _ h=>h.k (s6 _))
theorem rr (b:a8 w (aP s)) (a:dW s) (y x:Int):Calls prog 256 [ptr s.g,.int .i64 y,.int .i64 x].toArray w (d8 0 s (.tuple #[]) w):=(G_ w s b a.g a.ok y x).mono (λ_ _ h=>h.k (G7 _ _ _))
theorem nS (b:a8 w (aP s)) (a:dW s) (y x:Int):Calls prog 255 [ptr s.g,.int .i64 y,.int .i64 x].toArray w (d8 0 s (.tuple #[]) w):=(RT w s b a.g a.ok y x).mono (λ_ _ h=>h.k (RQ _ _ _))
theorem H5 (b:a8 w (aP s)) (a:dW s) (y x:Int):Calls prog 267 [ptr s.g,.int .i64 y,.int .i64 x].toArray w (d8 0 s (.tuple #[]) w):=(RN w s b a.g a.ok y x).mono (λ_ _ h=>h.k (RL _ _ _))
theorem H6 (a:a8 w (aP s)) (b:dW s) (p x h:Bool):Calls prog 345 [ptr s.g,.agg [.bool p,.bool x,.bool h].toArray].toArray w (d8 0 s (.tuple #[]) w):=(RO w s a b.g p x h).mono (λ_ _ h=>h.k (s9 _ _))
theorem nT (a:a8 w (aP s)) (b:dW s) (c:fV):Calls prog 166 [ptr s.g,.agg c.enc.toArray].toArray w (d8 0 s (.tuple #[]) w):=(RR w s a b.g c).mono (λ_ _ h=>h.k (s9 _ _))
theorem Tt (b:a8 w (aP s)) (a:dW s) (k:Int):Calls prog 248 [ptr s.g,.int .i64 k].toArray w (d8 0 s (.tuple #[]) w):=(A9 w s b a.g a.ok k).mono (λ_ _ h=>h.k (vi _ _))
theorem o9 (b:a8 w (aP s)) (a:dW s) (c:s.ap.be.l.length≤1000000000000) (k:Int):Calls prog 247 [ptr s.g,.int .i64 k].toArray w (d8 1 s (.tuple #[]) w):=(RW w s b a.g a.ok aa k).mono (λ_ _ h=>h.k (RV _ _))
theorem Tu (b:a8 w (aP s)) (a:dW s) (k:Int):Calls prog 257 [ptr s.g,.int .i64 k].toArray w (d8 0 s (.tuple #[]) w):=(RC w s b a.g a.ok k).mono (λ_ _ h=>h.k (Rz _ _))
theorem Tv (b:a8 w (aP s)) (a:dW s) (k:Int):Calls prog 260 [ptr s.g,.int .i64 k].toArray w (d8 0 s (.tuple #[]) w):=(RD w s b a.g a.ok k).mono (λ_ _ h=>h.k (RA _ _))
theorem Tw (b:a8 w (aP s)) (a:dW s) (k:Int):Calls prog 262 [ptr s.g,.int .i64 k].toArray w (d8 0 s (.tuple #[]) w):=(RE w s b a.g a.ok k).mono (λ_ _ h=>h.k (RB _ _))
theorem Tx (b:a8 w (aP s)) (a:dW s) (c:s.ap.be.l.length≤1000000000000) (k:Int):Calls prog 258 [ptr s.g,.int .i64 k].toArray w (d8 2000 s (.tuple #[]) w):=(RJ w s b a.g a.ok aa k).mono (λ_ _ h=>h.k (RF _ (s8 a.ok) _))
theorem Ty (b:a8 w (aP s)) (a:dW s) (c:s.ap.be.l.length≤1000000000000) (k:Int):Calls prog 259 [ptr s.g,.int .i64 k].toArray w (d8 2000 s (.tuple #[]) w):=(RK w s b a.g a.ok aa k).mono (λ_ _ h=>h.k (RG _ (s8 a.ok) _))
theorem H7 (b:a8 w (aP s)) (a:dW s) (c:s.ap.be.l.length≤1000000000000) (k:Int):Calls prog 261 [ptr s.g,.int .i64 k].toArray w (d8 2000 s (.tuple #[]) w):=(RI w s b a.g a.ok aa k).mono (λ_ _ h=>h.k (RH _ (s8 a.ok) _))
theorem Tz (b:a8 w (aP s)) (a:dW s) (c:s.ap.be.l.length≤1000000000000) (k:Int):Calls prog 263 [ptr s.g,.int .i64 k].toArray w (d8 2000000 s (.tuple #[]) w):=(R0 w s b a.g a.ok aa k).mono (λ_ _ h=>h.k (RZ _ _ a.ok))
theorem tu (b:a8 w (aP s)) (a:dW s):Calls prog 229 [ptr s.g].toArray w (d8 0 s (.tuple #[]) w):=(S8 w s b a.g a.ok).mono (λ_ _ h=>h.k (RP _))
theorem TA (b:a8 w (aP s)) (a:dW s):Calls prog 328 [ptr s.g].toArray w (d8 0 s (.tuple #[]) w):=(Sk w s b a.g a.ok).mono (λ_ _ h=>h.k (Sh _))
theorem BY (b:a8 w (aP s)) (a:dW s):Calls prog 252 [ptr s.g].toArray w (d8 0 s (.tuple #[]) w):=(Sf w s b a.g a.ok.bE).mono (λ_ _ h=>h.k (Sc _))
theorem TB (b:a8 w (aP s)) (a:dW s) (c:s.ap.be.l.length≤1000000000000):Calls prog 231 [ptr s.g].toArray w (d8 2 s (.tuple #[]) w):=(Rr w s b a.g a.ok aa).mono (λ_ _ h=>h.k (Rn _))
theorem TC (bs:List Bool) (x:Nat) (h:x<bs.length):cO.jk bs x<bs.length:=cO.GF x aa
theorem TD (bs:List Bool) (x:Nat) (h:x<bs.length):cO.iO bs x<bs.length:=by have:=cO.A4 bs x;omega
theorem TE (n:Nat) (x:Int) (h:0<n):cO.xG n x<n:=by unfold cO.xG;omega
theorem u_ {f:Nat→Nat} {n:Nat} (a: ∀x,x<n→f x<n): ∀k x,x<n→cO.iter f k x<n
 | 0,_,h=>h
 | k+1,x,h=>a _ (u_ a k x h)
theorem H8 {f:Nat→Nat} {len:Nat} (a: ∀x,x<len→f x<len) (x n:Int) (h:0<len):cO.nF f len x n<len:=u_ a _ _ (TE _ _ h)
theorem TF (s:bl) (a:dW s) (n:Int):cR 0 s.abs (tb s.abs n):=by
 have b:=a.g.n
 have f:=(a.ok.nums).2.1
 have c:0<s.st.bs.length:=by omega
 have d:=H8 (TC s.st.bs) (fx s.abs) n c
 have e:=H8 (TD s.st.bs) (fx s.abs) (max 0 (0 - max n (-1000))) c
 unfold tb;split
 exact cR.refl _;split
 refine oR _ (λ_=>?_);show _∧_≤s.ap.cols
 rw[←b];exact⟨rP _,Int.ofNat_le.2 (Nat.le_of_lt d)⟩;refine oR _ (λ_=>?_);show _∧_≤s.ap.cols
 rw[←b];exact⟨rP _,Int.ofNat_le.2 (Nat.le_of_lt e)⟩
theorem BZ (b:a8 w (aP s)) (a:dW s) (c: ∀w',Ext (aA (aP s)) w w'→cO.mK w') (k:Int):Calls prog 162 [ptr s.g,.int .i64 k].toArray w (d8 0 s (.tuple #[]) w):=(RX w s b c a.g a.ok k).mono (λ_ _ h=>h.k (TF s a k))
end
end
end Go.Proofs.YtoghoobfpcadbaaGreatDoor.Mq
namespace Go.Proofs.YtoghoobfpcadbaaGreatDoor.Mq.dz
open Go Go.RowKit Go.Proofs Tryz
def B0:Shelf.Ren:=⟨λ| 129=>215 | 171=>343 | 243=>403 | 246=>435 | 283=>454 | 284=>455 | 285=>456 | 286=>457 | 317=>470 | 318=>471 | 319=>472 | 320=>473 | 337=>483 | 338=>393 | n=>n,λ| 0=>0 | 2=>2 | 3=>3 | 4=>4 | 5=>5 | 9=>9 | 20=>20 | 37=>59 | 46=>250 | 51=>76 | 53=>32 | 171=>447 | 173=>449 | 212=>456 | 213=>457 | 232=>473 | 233=>436 | n=>n,λ| 17=>2 | 18=>7 | 19=>0 | n=>n⟩
theorem B1:LaysM.n171 prog B0 where
 mixed:=by kernel_rfl
 f129:=func215.trans (aV some ab)
 f171:=func343.trans (aV some ab)
 f243:=func403.trans (aV some ab)
 f246:=func435.trans (aV some ab)
 f283:=func454.trans (aV some ab)
 f284:=func455.trans (aV some ab)
 f285:=func456.trans (aV some ab)
 f286:=func457.trans (aV some ab)
 f317:=func470.trans (aV some ab)
 f318:=func471.trans (aV some ab)
 f319:=func472.trans (aV some ab)
 f320:=func473.trans (aV some ab)
 f337:=func483.trans (aV some ab)
 f338:=func393.trans (aV some ab)
 t0:=underlying0
 a0:=isAgg0
 z0:=sizeOf0
 v0:=zeroValue0
 t2:=underlying2
 a2:=isAgg2
 z2:=sizeOf2
 v2:=zeroValue2
 t3:=underlying3
 a3:=isAgg3
 z3:=sizeOf3
 v3:=zeroValue3
 t4:=underlying4
 a4:=isAgg4
 z4:=sizeOf4
 v4:=zeroValue4
 t5:=underlying5
 a5:=isAgg5
 z5:=sizeOf5
 v5:=zeroValue5
 t9:=underlying9
 a9:=isAgg9
 z9:=sizeOf9
 v9:=zeroValue9
 t20:=underlying20
 a20:=isAgg20
 z20:=sizeOf20
 v20:=zeroValue20
 t37:=underlying59
 a37:=isAgg59
 z37:=sizeOf59
 v37:=zeroValue59
 t46:=underlying250
 a46:=isAgg250
 z46:=sizeOf250
 v46:=zeroValue250
 t51:=underlying76
 a51:=isAgg76
 z51:=sizeOf76
 v51:=zeroValue76
 t53:=underlying32
 a53:=isAgg32
 z53:=sizeOf32
 v53:=zeroValue32
 t171:=underlying447
 a171:=isAgg447
 z171:=sizeOf447
 v171:=zeroValue447
 t173:=underlying449
 a173:=isAgg449
 z173:=sizeOf449
 v173:=zeroValue449
 t212:=underlying456
 a212:=isAgg456
 z212:=sizeOf456
 v212:=zeroValue456
 t213:=underlying457
 a213:=isAgg457
 z213:=sizeOf457
 t232:=underlying473
 a232:=isAgg473
 z232:=sizeOf473
 v232:=zeroValue473
 t233:=underlying436
 a233:=isAgg436
 z233:=sizeOf436
 v233:=zeroValue436
 g17:=by kernel_rfl
 g18:=by kernel_rfl
 g19:=by kernel_rfl
 i0:=by kernel_rfl
 i2:=by kernel_rfl
 i3:=by kernel_rfl
 i4:=by kernel_rfl
 i5:=by kernel_rfl
 i9:=by kernel_rfl
 i20:=by kernel_rfl
 i37:=by kernel_rfl
 i46:=by kernel_rfl
 i51:=by kernel_rfl
 i53:=by kernel_rfl
 i171:=by kernel_rfl
 i173:=by kernel_rfl
 i212:=by kernel_rfl
 i232:=by kernel_rfl
 i233:=by kernel_rfl
 m17:=by kernel_rfl
 m18:=by kernel_rfl
 m19:=by kernel_rfl
def fy (w:World):Prop:=Lib.TabIs prog w "internal/strconv.uint64pow10" .u64 Lib.pow10Tab
theorem vy {P:Program} {w w':World} {nm:String} {k:IntKind} {b:List Int} (h:Lib.TabIs P w nm k b) (c:Ext [] w w'):Lib.TabIs P w' nm k b:=by
 unfold Lib.TabIs World.var? at *
 obtain⟨g,d,a⟩:=lL.1 h;refine lL.2 ⟨g,d,?_⟩;have e:g<w.heap.size:=by
  rcases e0 g w.heap.size with h | h
  exact h;rw[rO h] at a;cases a
 rw[c.block g e av];exact a
theorem fy.ext {w w':World} (h:fy w) (a:Ext [] w w'):fy w':=vy h a
theorem B2 (w:World) (k:Nat) (os:Array Obj):Ext [] w (Sort.grow (w.drewN k) os):=by
 refine⟨rfl,rfl,rfl,?_,λb a _=>?_⟩;show w.heap.size≤(w.heap++os).size
 simp
 show (w.heap++os)[b]? = w.heap[b]?
 rw[ub a]
theorem vz (w:World) (a:fy w) (n:Int) (h: -9223372036854775808≤n∧n≤9223372036854775807):
 Calls prog 343 [.int .i64 n].toArray w (λe w'=>e= .returned (.string (bs (Lib.itoa n)))∧Ext [] w w'):=by
 refine Calls.mono (Any.strconv_Itoa B1 n h.1 h.2 w a) ?_;rintro e w' ⟨rfl,k,os,rfl⟩;exact⟨rfl,B2 w k os⟩
theorem vA:ad prog 343:=ad.of func343 ab ab
def rs:List Int:=[4,20,1,5,6,7,25,47,66,1000,1002,1003,1004,1006,1047,1048,1049,2004]
abbrev yh:List Value:=rs.map (Value.int .i64)
def kM (p:Bool) (n:Int) (i:Nat):Bool:=decide (rs[i]? = some n) && (p == decide (2≤i))
def kb (p:Bool) (n:Int):Option Nat:=(List.range 18).find? (kM p n)
def kc (p:Bool) (n:Int):Int:=match kb p n with | some k=>(k:Int) | none=> -1
theorem yi {p:Bool} {n:Int} {k:Nat} (h:kb p n=some k):k<18:=by
 have:=List.mem_of_find?_eq_some h
 simpa using this
theorem TG {p:Bool} {n:Int} {k:Nat} (h:kb p n=some k):kM p n k=true:=List.find?_some h
theorem TH {p:Bool} {n:Int} {i j:Nat} (hi:kM p n i=true) (a:kM p n j=true):i=j:=by
 have b: ∀i,i<18→ ∀j,j<18→rs[i]? = rs[j]? →i=j:=by decide
 simp only[kM,d_,e2] at hi a
 have c:=(cY.1 hi.1).1
 have d:=(cY.1 a.1).1
 exact b i c j d (hi.1.trans a.1.symm)
theorem TI {p:Bool} {n:Int} {k:Nat} (h:kM p n k=true):kb p n=some k:=by
 have b:k<18:=by
  simp only[kM,d_,e2] at h
  exact (cY.1 h.1).1
 cases a:kb p n with
 | none=>
  have:=List.find?_eq_none.1 a k (by simpa using b)
  exact absurd h this
 | some j=>rw[TH h (TG a)]
theorem TJ {p:Bool} {n:Int} (h: ∀j,j<18→kM p n j=false):kb p n=none:=by
 refine List.find?_eq_none.2 λj a=>?_
 rw[h j (by simpa using a)];simp
theorem qj (w:World):Calls prog 217 [].toArray w (λe w'=>e= .returned (.agg yh.toArray)∧Ext [] w w'):=by
 refine aW func217 ntmps217 ?_;refine ah ?_;intro b c d;refine ax ?_;refine eW L4 rfl rfl cA bb (aH.cons rfl (aH.cons rfl (aH.cons rfl (aH.cons rfl (aH.cons rfl (aH.cons rfl (aH.cons rfl (aH.cons rfl (gb rfl rfl rfl rfl rfl rfl rfl rfl rfl rfl))))))))) (dY rfl) ?_;refine aS ?_;intro f a;exact⟨rfl,a.ext⟩
theorem sH (w:World) (p:Bool) (n:Int):Calls prog 152 [.bool p,.int .i64 n].toArray w (λe w'=>e= .returned (.int .i64 (kc p n))∧Ext [] w w'):=by
 refine aW func152 ntmps152 ?_;refine aL ?_;refine ao rfl Nx rfl (λw' _=>qj w') ?_;refine aS ?_;refine b1 (ι:=Nat) (λi=>[(0,.bool p),(1,.int .i64 n),(7,.agg yh.toArray),(8,.int .i64 (i:Int))]) (λ_=>af w [] []) (λi=>i≤18∧ ∀j,j<i→kM p n j=false) (λi=>18 - i) ?_ ?_;exact λw a=>⟨0,⟨aa,by intro j l;omega⟩,(cw rfl rfl rfl rfl),a⟩
 rintro i ⟨hi,c⟩;refine al ?_;refine aj (λo=>?_) (λo=>?_);obtain⟨x,m⟩ : ∃x,rs[i]? = some x:=⟨rs[i]'(by simp[rs];omega),bG _⟩;have r:yh[i]? = some (.int .i64 x):=by rw[yh,eJ,m];rfl
 refine aD ?_;refine lP (q:=i) underlying307 bM rfl rfl rfl aa aa r ?_;refine aR ?_;have s:decide (2≤i)=decide ((2 :Int)≤(i:Int)):=by rw[hf];omega
 have d:kM p n i=(decide (x=n) && (p == decide ((2 :Int)≤(i:Int)))):=by simp only[kM,m,s,dI]
 refine aX 15 rfl (λf=>?_) (λf=>?_);have b:=a1 f
 refine aD ?_;refine zn underlying4 rfl rfl rfl ?_;refine ah ?_;refine aj (λg=>?_) (λg=>?_);refine bI ?_;intro t a;refine⟨?_,a.ext⟩;have ai:kM p n i=true:=by rw[d,b];simpa using g
 rw[kc,TI ai];refine aD ?_;have ai:kM p n i=false:=by rw[d,b];simpa using g
 refine bg (i+1) ⟨aa,λj l=>?_⟩ aa (cw rfl rfl rfl rfl) (λw' k=>k);rcases e0 j i with h | h
 exact c j h;obtain rfl:j=i:=by omega
 exact ai;have b:=bc f
 refine cI ?_;have ai:kM p n i=false:=by rw[d];simp only[ud];exact .inl (by simpa using b)
 refine bg (i+1) ⟨aa,λj l=>?_⟩ aa (cw rfl rfl rfl rfl) (λw' k=>k);rcases e0 j i with h | h
 exact c j h;obtain rfl:j=i:=by omega
 exact ai;have u:i=18:=by omega
 subst u;refine bB ?_;intro t a;refine⟨?_,a.ext⟩;rw[kc,TJ c]
theorem TK (p:Bool) (n:Int): -1≤kc p n∧kc p n<18:=by
 unfold kc;split
 rename_i k a;have:=yi a
 omega
 omega
theorem TL (w:World) (p:Bool) (n:Int):Calls prog 250 [.bool p,.int .i64 n].toArray w (λe w'=>e= .returned (.bool (kb p n).isSome)∧Ext [] w w'):=by
 refine aW func250 ntmps250 ?_;refine aJ ?_;refine ao rfl zO rfl (λw' _=>sH w' p n) ?_;refine al ?_;intro b a;refine⟨?_,a.ext⟩;unfold kc;cases kb p n with
 | some k=>simp
 | none=>simp
abbrev tv (b:Nat):Value:= .agg #[.int .u32 (b:Int)]
def cV (b:Nat) (p:Bool) (n:Int) (a:Bool):Nat:=
 match kb p n with
 | none=>b
 | some k=>if a then b ||| 2 ^ k else b &&& (4294967295 - 2 ^ k)
theorem o_ {b:Nat} (h:b<4294967296) (p:Bool) (n:Int) (a:Bool):cV b p n a<4294967296:=by
 unfold cV;split
 exact h;rename_i k c;have:=yi c
 split
 exact oi (n:=32) h (qK aZ aa);exact qH Nat.and_le_left h
theorem H9 {k:Nat} (b:k<18):IntKind.u32.wrap (1*2 ^ min ((k:Int)).toNat IntKind.u32.bits)=((2 ^ k:Nat):Int):=by
 have a:2 ^ k<4294967296:=qK (n:=32) aZ aa
 rw[hc,iE (by simp only[IntKind.bits];omega),Int.one_mul];have: ((2 :Int) ^ k)=((2 ^ k:Nat):Int):=by simp
 rw[this];exact w6 (rP _) (Int.ofNat_lt.2 a)
theorem oE (w:World) (b:Nat) (d:b<4294967296) (p:Bool) (n:Int) (g:Bool):
 Calls prog 101 [tv b,.bool p,.int .i64 n,.bool g].toArray w (λe w'=>e= .returned (tv (cV b p n g))∧Ext [] w w'):=by
 have x:=TK p n
 refine aW func101 ntmps101 ?_;refine ah ?_;intro y z A;refine ar ?_;intro B C D;refine al ?_;refine ao rfl zO rfl (λw' _=>sH w' p n) ?_;refine bB ?_;refine aj (λa=>?_) (λa=>?_);refine bp ?_;intro q c;refine⟨?_,c.ext⟩;unfold cV;unfold kc at a
 cases h:kb p n with
 | none=>rfl
 | some k=>rw[h] at a;simp at a;omega
 obtain⟨k,f⟩ : ∃k,kb p n=some k:=by
  unfold kc at a
  cases h:kb p n with
  | none=>rw[h] at a;simp at a
  | some k=>exact⟨k,rfl⟩
 have t:kc p n=(k:Int):=by rw[kc,f]
 have s:=yi f
 rw[t];refine al ?_;have i:2 ^ k<4294967296:=qK (n:=32) aZ aa
 have u:b ||| 2 ^ k<4294967296:=oi (n:=32) d i
 have v:b &&& (4294967295 - 2 ^ k)<4294967296:=qH Nat.and_le_left d
 refine b6 rfl (λj=>?_) (λj=>?_);refine bF [0,1,2,3,4,5] 1 [[(6,true,[])]] ?_;refine ah ?_;refine aI rfl (λl o=>(oC (r:=((2 ^ k:Nat):Int)) rfl rfl rfl aa (H9 s) aC)) ?_;refine aI rfl (λl o=>(mD (r:=((b ||| 2 ^ k:Nat):Int)) rfl rfl rfl (or_eq (m:=b) (n:=2 ^ k) rfl rfl d i (w6 (rP _) (Int.ofNat_lt.2 u))) aC)) ?_;refine et ?_;intro q c;refine⟨?_,c.ext⟩;rw[cV,f,j];rfl
 refine bF [0,1,2,3,4,5] 1 [[(6,true,[])]] ?_;refine ah ?_;refine aI rfl (λl o=>(oC (r:=((2 ^ k:Nat):Int)) rfl rfl rfl aa (H9 s) aC)) ?_;refine aI rfl (λl o=>(uK (r:=((b &&& (4294967295 - 2 ^ k):Nat):Int)) rfl rfl rfl (FA (m:=b) (n:=2 ^ k) rfl rfl d i (w6 (rP _) (Int.ofNat_lt.2 v))) aC)) ?_;refine et ?_;intro q c;refine⟨?_,c.ext⟩;rw[cV,f];have:g=false:=by simpa using j
 rw[this];rfl
def B3 (b k:Nat):Bool:=decide (b/2 ^ k%2=1)
def rt (b:Nat) (p:Bool) (n:Int):Bool:=match kb p n with | some k=>B3 b k | none=>false
theorem TM (b k:Nat) (a:b<4294967296):IntKind.u32.wrap ((BitVec.ofInt IntKind.u32.bits ((b:Int)/2 ^ min ((k:Int)).toNat 32) &&& BitVec.ofInt IntKind.u32.bits 1).toNat:Int)=((b/2 ^ min k 32%2 :Nat):Int):=by
 have c:b/2 ^ min k 32<4294967296:=qH (Nat.div_le_self _ _) a
 refine and_eq (m:=b/2 ^ min k 32) (n:=1) ?_ rfl c aZ ?_;rw[hc,Int.natCast_ediv];simp
 rw[Nat.and_one_is_mod];exact w6 aa aa
theorem qk (w:World) (b:Nat) (f:b<4294967296) (p:Bool) (n:Int):
 Calls prog 164 [tv b,.bool p,.int .i64 n].toArray w (λe w'=>e= .returned (.bool (rt b p n))∧Ext [] w w'):=by
 refine aW func164 ntmps164 ?_;refine ah ?_;intro i j l;refine aD ?_;refine ao rfl zO rfl (λw' _=>sH w' p n) ?_;refine aL ?_;cases a:kb p n with
 | none=>
  have c:kc p n= -1:=by rw[kc,a]
  rw[c];refine bB ?_;intro g d;exact⟨by rw[rt,a],d.ext⟩
 | some k=>
  have c:kc p n=(k:Int):=by rw[kc,a]
  have m:=yi a
  rw[c];refine bY rfl rfl av ?_;refine ar ?_;refine bY rfl rfl av ?_;refine ar ?_;refine bY rfl rfl av ?_;refine ar ?_;refine bY rfl rfl av ?_;refine pT rfl rfl rfl aa rfl ?_;refine bY rfl rfl av ?_;refine q1 rfl rfl rfl (TM b k f) ?_;refine bY rfl rfl av ?_;refine ar ?_;refine zj rfl rfl av rfl ?_;refine ax ?_;intro g d;refine⟨?_,d.ext⟩;have h:decide (((b/2 ^ k%2 :Nat):Int)=1)=B3 b k:=by
   rw[B3,hf];exact Int.ofNat_inj (n:=1)
  rw[rt,a,iE aa,h]
def tw (p:Bool) (n:Int):List UInt8:=(if p then [63] else [])++Lib.itoa n
theorem H_ (p:Bool) (n:Int) (h: -9223372036854775808≤n∧n≤9223372036854775807): (tw p n).length≤22:=by
 have:=Lib.itoa_length_le n h.1 h.2
 unfold tw;rw[b8];split <;> simp <;> omega
theorem B4 (w:World) (d:fy w) (p:Bool) (n:Int) (h: -9223372036854775808≤n∧n≤9223372036854775807):
 Calls prog 251 [.bool p,.int .i64 n].toArray w (λe w'=>e= .returned (.string (bs (tw p n)))∧Ext [] w w'):=by
 have g:=Lib.itoa_length_le n h.1 h.2
 refine aW func251 ntmps251 ?_;refine bp ?_;refine b6 rfl (λa=>?_) (λa=>?_);refine ah ?_;refine ao rfl vA rfl (λw' b=>vz w' (d.ext b.ext) n h) ?_;refine eF rfl rfl rfl b7 ?_;refine al ?_;intro f c;exact⟨by rw[tw,ay a],c.ext⟩;refine ax ?_;refine ao rfl vA rfl (λw' b=>vz w' (d.ext b.ext) n h) ?_;refine ax ?_;intro f c;exact⟨by rw[tw,ag (by simp[a])];rfl,c.ext⟩
def pa:Nat:=96
theorem TN:cV (cV 0 true 7 true) true 25 true=pa:=by decide
theorem vb (w:World):Calls prog 61 [].toArray w (λe w'=>e= .returned (tv pa)∧Ext [] w w'):=by
 refine aW func61 ntmps61 ?_;refine ah ?_;intro c d f;refine ax ?_;refine ao rfl qW rfl (λw' a=>oE w' 0 aZ true 7 true) ?_;refine ao rfl qW rfl (λw' a=>oE w' _ (o_ aZ _ _ _) true 25 true) ?_;rw[TN];refine ax ?_;intro g b;exact⟨rfl,b.ext⟩
def ql (b:Nat) (p:Bool) (n:Int):List UInt8:=[27,91]++tw p n++[59]++[if rt b p n then 49 else if (kb p n).isSome then 50 else 48]++[36,121]
theorem Ia (w:World) (f:fy w) (b:Nat) (j:b<4294967296) (p:Bool) (n:Int) (h: -9223372036854775808≤n∧n≤9223372036854775807):
 Calls prog 177 [tv b,.bool p,.int .i64 n].toArray w (λe w'=>e= .returned (.string (bs (ql b p n)))∧Ext [] w w'):=by
 have k:=H_ p n h
 refine aW func177 ntmps177 ?_;refine ah ?_;intro l m o;refine cI ?_;refine ao rfl ng rfl (λw' a=>qk w' b j p n) ?_;refine ah ?_;refine b6 rfl (λd=>?_) (λd=>?_);refine aJ ?_;refine ao rfl zV rfl (λw' a=>B4 w' (f.ext a.ext) p n h) ?_;refine eF rfl rfl rfl b7 ?_;refine eF rfl rfl rfl b7 ?_;refine ar ?_;refine eF rfl rfl rfl b7 ?_;refine eF rfl rfl rfl b7 ?_;refine ax ?_;intro i c;exact⟨by rw[ql,ay d],c.ext⟩;refine aS ?_;refine ao rfl NJ rfl (λw' a=>TL w' p n) ?_;refine ah ?_;refine b6 rfl (λg=>?_) (λg=>?_);refine aJ ?_;refine ao rfl zV rfl (λw' a=>B4 w' (f.ext a.ext) p n h) ?_;refine eF rfl rfl rfl b7 ?_;refine eF rfl rfl rfl b7 ?_;refine ar ?_;refine eF rfl rfl rfl b7 ?_;refine eF rfl rfl rfl b7 ?_;refine ax ?_;intro i c;exact⟨by rw[ql,ag (by simp[d]),ay g],c.ext⟩;refine aD ?_;refine ao rfl zV rfl (λw' a=>B4 w' (f.ext a.ext) p n h) ?_;refine eF rfl rfl rfl b7 ?_;refine eF rfl rfl rfl b7 ?_;refine ar ?_;refine eF rfl rfl rfl b7 ?_;refine eF rfl rfl rfl b7 ?_;refine ax ?_;intro i c;exact⟨by rw[ql,ag (by simp[d]),ag (by simp[g])],c.ext⟩
end Go.Proofs.YtoghoobfpcadbaaGreatDoor.Mq.dz
