/- part 24 of the proof -/
import Derived.Test.YtkeokgcdnfjaaaaGreatDoorQ23
import Derived.Lib.Builder
import Derived.Lib.AppendStr
import Derived.Shelf.Strconv.Itoa3
import Derived.Lib.ItoaLen
namespace Go.Proofs.YtkeokgcdnfjaaaaGreatDoor.Mq
open Go Go.RowKit Go.Proofs Tryz
section
structure lY where
 told:Bool
 kind:Int
 code:Int
 has:Bool
 text:List UInt8
 row:Int
 dm:Int
 gV:Int
 j4:Int
 jC:Int
abbrev lY.enc (c:lY):List Value:=[.bool c.told,.int .i64 c.kind,.int .i64 c.code,.bool c.has,.string (bs c.text),.int .i64 c.row,.int .i64 c.dm,.int .i64 c.gV,.int .i64 c.j4,.int .i64 c.jC]
def lm:bA lY:=⟨lY.enc,10,λ_=>rfl,λ_=>by repeat (first | exact aI.nil | refine aI.cons rfl ?_)⟩
structure nK where
 A:Option Addr
 c:Nat
 l:List lY
abbrev nK.val (r:nK):Value:= .slice r.A r.l.length r.c
abbrev nK.au (r:nK):Chunk:=Mq.au 181 lm r.A r.c r.l
structure bK where
 am:bk
 bj:bk
 use:Bool
 b6:Nat
 cg:List UInt8
 bL:Option Addr
 buf:ij
 aF:nK
abbrev bK.b8 (t:bK):Nat:=if t.use=true then t.bj.g else t.am.g
abbrev bK.dN (t:bK):Nat:=if t.use=true then t.am.g else t.bj.g
abbrev bK.BM (t:bK):Int:=if t.use=true then 1 else 0
abbrev o2 (par:Nat) (t:bK):List Value:=[ptr par,ptr t.b8,ptr t.dN,.int .i64 t.BM,.int .u32 (t.b6:Int),.string (bs t.cg),.pointer t.bL,t.buf.val,t.aF.val]
abbrev eI (g par:Nat) (t:bK):Chunk:=aD g (o2 par t) 97
abbrev bx (g par:Nat) (X:Chunk) (t:bK):List Chunk:=[eI g par t,aT (aO t.am),aT (aO t.bj),t.buf.au,t.aF.au,X]
theorem HQ (s:List UInt8):Lib.strCells (bs s)=cy.all s:=by
 simp only[Lib.strCells,bs,cy,bA.all];induction s with
 | nil=>rfl
 | cons c s a=>simp_all
section
variable {P:Program} {n:Nat} {ops:Array Oper} {Q:cl} {rest:List Oper} {l:Fr} {d:Nat} {ty:TypeId} {pos:String} {a6:Array Edge}
variable {b:World} {S:List Nat} {cs:List Chunk}
theorem HR {a:Op} (v:Value) (ak:Nat.blt d n=true) (e: ∀c w,ms l c→af b S cs w→(execOp c ⟨some d,a,ty,pos,a6,none⟩).run P w= .ok (.value v) w)
 (h:az P n ops Q rest ((d,v)::l) (af b S cs)):az P n ops Q (⟨some d,a,ty,pos,a6,none⟩::rest) l (af b S cs):=r2 v ak e h
theorem BN {w:World} {g:Nat} {xs:List Value} {t:TypeId} (h: (aD g xs t).pred w):w.shape? g=some (t,xs.length):=by
 have a:w.heap[g]? = some (.cells xs.toArray t (0,0)):=h
 simp[World.shape?,a]
theorem HS {src a t te:TypeId} {j:TypeInfo} {x:Operand} {g o:Nat} {xs:List Value} (c:P.underlying src=some (.pointer t)) (e:P.underlying a=some .unsafePointer) (f:P.info? t=some j) (i:j.size≠0) (k:Has cs (aD g xs te)) (m:o<xs.length)
 (ak:Nat.blt d n=true) (p:a_ l x=some (.pointer (some ⟨g,o,none⟩)))
 (h:az P n ops Q rest ((d,.pointer (some ⟨g,o,none⟩))::l) (af b S cs)):az P n ops Q (⟨some d,.convert src a x,ty,pos,a6,none⟩::rest) l (af b S cs):=
 HR _ ak (λs w q r=>by
  simp only[execOp,q x _ p];have:=Lib.run_to_unsafe (P:=P) w ⟨g,o,none⟩ c e f i (BN (r.has k)) m
  simp[this]) h
theorem HT {src a u te:TypeId} {j:TypeInfo} {x:Operand} {g o m:Nat} {xs:List Value} (c:P.underlying src=some .unsafePointer) (e:P.underlying a=some (.pointer u)) (f:P.info? u=some j) (i:Has cs (aD g xs te)) (k:xs.length=m) (p:liesAt P P.depth te (m/P.cellsOf te) o u 1=true)
 (ak:Nat.blt d n=true) (q:a_ l x=some (.pointer (some ⟨g,o,none⟩)))
 (h:az P n ops Q rest ((d,.pointer (some ⟨g,o,none⟩))::l) (af b S cs)):az P n ops Q (⟨some d,.convert src a x,ty,pos,a6,none⟩::rest) l (af b S cs):=
 HR _ ak (λt w r s=>by
  simp only[execOp,r x _ q];have:=Lib.run_from_unsafe (P:=P) w ⟨g,o,none⟩ c e f (BN (s.has i)) (by rw[k];exact p)
  simp[this]) h
theorem HU {H:World→Prop} {cn du te:TypeId} {j:TypeInfo} {x y:Operand} {a:Addr} (ai:P.underlying cn=some (.pointer te)) (c:P.info? te=some j) (ak:Nat.blt d n=true) (e:a_ l x=some (.pointer (some a))) (f:a_ l y=some (.pointer (some a)))
 (h:az P n ops Q rest ((d,.bool false)::l) H):az P n ops Q (⟨some d,.binOp .neq cn x y du,ty,pos,a6,none⟩::rest) l H:=
 da _ ak (λg w b=>by
  have:=Lib.run_neq_ptr_same (P:=P) w a ai c
  simp[execOp,b x _ e,b y _ f,eqGuard,this]) h
theorem HV {x y:Operand} {t u e:Nat} {A:Option Addr} {c:Nat} {L s:List UInt8} {cs':Option Addr→Nat→List Chunk} (v:cY P t e 1 1 [.int .u8 0]) (K: (P.info? e).bind (·.zero)=some (.int .u8 0)) (D:P.underlying u=some .string) (ak:Nat.blt d n=true)
 (W:a_ l x=some (.slice A L.length c)) (X:a_ l y=some (.string (bs s)))
 (M: ∀a c',bn cs (au e cy A c L) (au e cy a c' (L++s)) (cs' a c')) (Zh:L.length+s.length≤140737488355328)
 (h: ∀a c',az P n ops Q rest ((d,.slice a (L++s).length c')::l) (af b S (cs' a c'))):
 az P n ops Q (⟨some d,.call ⟨.builtin .append,#[x,y],#[t,u]⟩,ty,pos,a6,none⟩::rest) l (af b S cs):=by
 obtain⟨i,fg,z,Zi,Zj,E,G⟩:=v.inf;have H:i.zero=some (.int .u8 0):=by rw[z] at K;exact K
 refine ht ak λZk w N O=>?_
 have F:w.ownsRow 0 e 1 (.slice A L.length c) L.length (cy.all L):=O.has (M A c).has
 obtain⟨p,w',q,o,B,R⟩ : ∃p w',(Builtin.append_ #[t,u] ty #[.slice A L.length c,.string (bs s)]).run P w= .ok p w'∧w'.ownsRow 0 e 1 p (L.length+s.length) (cy.all (L++s))∧w.grownBy w' (Value.slice A L.length c).ownBlock∧(∀k,p.ownBlock=some k→(Value.slice A L.length c).ownBlock=some k∨w.heap.size≤k):=by
  have m:=hz s
  have T:cy.all (L++s)=cy.all L++Lib.strCells (bs s):=by rw[HQ,bA.all_append]
  rcases F.2 with ⟨I,Y⟩ | ⟨g,cap,am,I,_,U,Zl,Zm,Zn,Z⟩
  have Za:w.ownsRow w.heap.size e 1 (.slice A L.length c) L.length (cy.all L):=⟨F.1,.inl ⟨I,Y⟩⟩
  obtain⟨p,w',q,o,B,_⟩:=Lib.run_append_own_string (P:=P) (w:=w) w.heap.size t u ty e i v.e8 D z H E G (.slice A L.length c) L.length (cy.all L) Za (bs s) (by rw[m];simp only[maxLen];omega) (by rw[m];omega) (cd _);rw[m] at o
  refine⟨p,w',q,?_,B,λk f=> .inr ?_⟩;rw[T];refine⟨o.1,?_⟩;rcases o.2 with h | ⟨g,cap,am,h⟩
  exact .inl h;exact .inr ⟨g,cap,am,h.1,bN _,h.2.2⟩;rcases o.2 with ⟨h,_⟩ | ⟨g,cap,am,h,Zo,_⟩
  rw[h] at f;simp[Value.ownBlock] at f
  rw[h] at f
  simp only[Value.ownBlock,dz] at f
  omega
  injection I with Zb Zp Zc
  subst Zb;subst Zc
  obtain⟨p,w',q,o,B,_⟩:=Lib.run_append_own_string (P:=P) (w:=w) 0 t u ty e i v.e8 D z H E G (.slice (some ⟨g,0,none⟩) L.length c) L.length (cy.all L) F (bs s) (by rw[m];simp only[maxLen];omega) (by rw[m];omega) (bN _);rw[m] at o
  refine⟨p,w',q,by rw[T];exact o,B,λk f=>?_⟩;by_cases Zd:L.length+s.length≤c
  have C:=Lib.run_append_room_string (P:=P) (w:=w) t u ty e i v.e8 D z E g L.length c am U (bs s) (by rw[m];exact Zd) (by rw[m];omega)
  rw[q] at C
  injection C with J Ze
  rw[J] at f
  exact .inl f;have C:=Lib.run_append_grow_string (P:=P) (w:=w) t u ty e i (.int .u8 0) v.e8 D z H ⟨g,0,none⟩ L.length c (cy.all L) (by rw[E];simpa using F.1) (λj x r=>by
   rw[Addr.add_lit,cell_of_row w g (0+j) am e (0,0) U,dG];have Zq:=(cU.1 r).1
   rw[←Z] at r
   rw[is] at r
   split at r
   simpa using r
   cases r) (bs s) (by rw[m];omega) (by rw[m];omega) (by rw[G,m];exact growslice_fits aa aa)
  rw[q] at C
  injection C with J Ze
  rw[J] at f
  simp only[Value.ownBlock,dz] at f
  exact .inr aa
 obtain⟨a,c',Zf⟩:=Hp (e:=e) (sz:=1) o;have V:p= .slice a (L++s).length c':=by rw[Zf,b0]
 rw[V] at q R
 have Zg: (au e cy a c' (L++s)).pred w':=by
  show w'.ownsRow 0 e cy.sz (.slice a (L++s).length c') (L++s).length (cy.all (L++s))
  rw[←V,b0];exact o
 refine⟨.slice a (L++s).length c',w',?_,(h a c').at (O.hV (M a c') (Ext.uf B) Zg ?_ ?_)⟩;simp[execOp,resolve,invoke,builtin,N x _ W,N y _ X]
 simp only[b0] at q
 simp[q]
 intro k f;replace f: (Value.slice a (L++s).length c').ownBlock=some k:=iV.1 f
 rcases R k f with h | h
 exact .inl (iV.2 h);exact .inr h;show (Value.slice a (L++s).length c').ownBlock.toList.Nodup
 cases (Value.slice a (L++s).length c').ownBlock <;> simp
end
def BO (g:Nat) (t:bK):Prop:=t.bL=none∨t.bL=some ⟨g,6,none⟩
abbrev BP (g:Nat) (t:bK):bK:={ t with bL:=some ⟨g,6,none⟩ }
abbrev HW (g:Nat):Value:= .pointer (some ⟨g,6,none⟩)
theorem S9 (w:World) (g par:Nat) (t:bK) (d:bb w [eI g par t]) (c:BO g t):Calls prog 125 [HW g].toArray w
 (aP (λ_:Unit=> .tuple #[]) [eI g par t] (λ_=>[eI g par (BP g t)]) (λ_=>True) w):=by
 have hi: ∃j,prog.info? 94=some j∧j.size≠0:=by
  have h: (prog.info? 94).map (λj=>Nat.beq j.size 0)=some false:=by kernel_rfl
  cases a:prog.info? 94 with
  | none=>rw[a] at h;cases h
  | some j=>
   rw[a] at h
   refine⟨j,rfl,λf=>?_⟩;simp[f] at h
 obtain⟨j,a,i⟩:=hi;have k:liesAt prog prog.depth 97 (9/prog.cellsOf 97) 6 94 1=true:=by kernel_rfl
 obtain⟨am,bj,use,b6,cg,bL,buf,aF⟩:=t;have l:bL=none∨bL=some ⟨g,6,none⟩:=c
 clear c;refine calls (n:=20) func125 rfl ntmps125 rfl ?_;refine cG ?_ (Sub.refl _) d.start;rcases l with rfl | rfl
 refine bH ?_;refine HS underlying92 underlying285 a i (xs:=_) aQ (show 6<9 by decide) rfl rfl ?_;refine wX rfl rfl (λq _=>by rw[run_callFunc_extern func187 ab ab ab (e:=Extern.AbiNoEscape.same) ab];rw[Lib.run_noEscape];rfl) ?_;refine HT (m:=9) (o:=6) underlying285 underlying92 a (xs:=_) aQ rfl k rfl rfl ?_;refine ay ?_;intro p b;exact aN () aU b;refine ef ?_;refine HU underlying92 a rfl rfl rfl ?_;refine ay ?_;intro p b;exact aN () aU b
theorem BQ (w:World) (g par:Nat) (t:bK) (a:bb w [eI g par t,t.buf.au]) (b:BO g t) (s:List UInt8) (c:t.buf.l.length+s.length≤140737488355328):Calls prog 79 [HW g,.string (bs s)].toArray w
 (aP (λ_:ij=> .tuple #[.int .i64 (s.length:Int),.nilIface]) [eI g par t,t.buf.au] (λz=>[eI g par { BP g t with buf:=z },z.au]) (λz=>z.l=t.buf.l++s) w):=by
 refine bI func79 ntmps79 a ?_;refine aJ ?_;refine cI (λd e=>S9 d g par t e b) (λ_ _=>?_);refine aR ?_;refine HV fi ab underlying9 rfl rfl rfl (λ_ _=>eo) c (λdE c9=>?_);refine cE ?_;intro h f;exact aN ⟨dE,c9,t.buf.l++s⟩ rfl f
structure dS (s:bk):Prop where
 g:dO s
 ok:dV s.abs
 small:s.ap.s.l.length≤100∧s.ap.cols≤100∧s.ap.r.room≤100
abbrev firstT (t:bK):bk:=if t.use=true then t.bj else t.am
structure cj (g:Nat) (R:Int) (m:Nat) (t:bK):Prop where
 am:dS t.am
 bj:dS t.bj
 room: (firstT t).ap.r.room=R
 bL:BO g t
 cg:t.cg.length≤256
 be:t.am.ap.be.l.length+t.bj.ap.be.l.length+t.aF.l.length≤m
 buf:t.buf.l.length≤m
 aF: ∀c∈t.aF.l,c.text.length≤256
 md:t.b6<4294967296
theorem cj.mono {g:Nat} {R:Int} {m k:Nat} {t:bK} (h:cj g R m t) (a:m≤k):cj g R k t:=⟨h.am,h.bj,h.room,h.bL,h.cg,by have:=h.be;omega,by have:=h.buf;omega,h.aF,h.md⟩
theorem ge.room {k:Nat} {s z:bk} (h:ge k s z):z.ap.r.room=s.ap.r.room:=h.kept.room
theorem ge.ok {k:Nat} {s z:bk} (h:ge k s z) (a:dS s):dS z:=by
 have b:=h.kept.rows
 have c:z.ap.cols=s.ap.cols:=h.kept.cols
 rw[lQ,lQ] at b
 exact⟨h.wf,h.kept.wf a.ok,by rw[b,c,h.room];exact a.small⟩
theorem cj.ri {g:Nat} {R:Int} {m k:Nat} {t:bK} {z:bk} (h:cj g R m t) (a:ge k t.am z):cj g R (m+k) { t with am:=z }:=by
 refine⟨a.ok h.am,h.bj,?_,h.bL,h.cg,?_,by have:=h.buf;dsimp only;omega,h.aF,h.md⟩;have:=h.room
 unfold firstT at this ⊢
 dsimp only;split
 rename_i b;rwa [ax b] at this
 rename_i b;rw[ag b] at this;rw[a.room];exact this
 have c:=h.be
 have d:z.ap.be.l.length≤t.am.ap.be.l.length+k:=a.kept.be
 dsimp only;omega
theorem cj.S_ {g:Nat} {R:Int} {m k:Nat} {t:bK} {z:bk} (h:cj g R m t) (a:ge k t.bj z):cj g R (m+k) { t with bj:=z }:=by
 refine⟨h.am,a.ok h.bj,?_,h.bL,h.cg,?_,by have:=h.buf;dsimp only;omega,h.aF,h.md⟩;have:=h.room
 unfold firstT at this ⊢
 dsimp only;split
 rename_i b;rw[ax b] at this;rw[a.room];exact this
 rename_i b;rwa [ag b] at this
 have c:=h.be
 have d:z.ap.be.l.length≤t.bj.ap.be.l.length+k:=a.kept.be
 dsimp only;omega
theorem rj {g par:Nat} {t:bK} {z:bk} (h:z.g=t.am.g):eI g par { t with am:=z } = eI g par t:=by
 simp only[eI,o2,bK.b8,bK.dN,bK.BM,h]
theorem Ta {g par:Nat} {t:bK} {z:bk} (h:z.g=t.bj.g):eI g par { t with bj:=z } = eI g par t:=by
 simp only[eI,o2,bK.b8,bK.dN,bK.BM,h]
def hn (g par:Nat) (X:Chunk) (R:Int) (m:Nat) (v:Value) (T:bK) (w:World):Ending→World→Prop:=aP (λ_:bK=>v) (bx g par X T) (bx g par X) (cj g R m) w
theorem fc (w:World) (g par:Nat) (T:bK) (d: (eI g par T).pred w):Calls prog 154 [ptr g].toArray w (Pure (ptr T.am.g) w):=by
 obtain⟨am,bj,use,b6,cg,bL,buf,aF⟩:=T;refine aW func154 ntmps154 ?_;cases use with
 | false=>
  refine dB ?_;refine bG [0,1,2,3,4,5,6,7,8,9] 0 [[]] ?_;refine aS ?_;refine aL rfl (λc a=>(ba bM rfl rfl (λe b=>by subst b;exact a.bV d (by (simp;done)) rfl) aG)) ?_;refine ar ?_;refine aL rfl (λc a=>(qH (q:=0) underlying88 pz rfl rfl rfl a7 aa aG)) ?_;refine aL rfl (λc a=>(ba qM rfl rfl (λe b=>by subst b;exact a.bV (o:=1) d av rfl) aG)) ?_;refine al ?_;intro h f;exact⟨rfl,f.ext⟩
 | true=>
  refine dB ?_;refine bG [0,1,2,3,4,5,6,7,8,9] 0 [[]] ?_;refine aS ?_;refine aL rfl (λc a=>(ba bM rfl rfl (λe b=>by subst b;exact a.bV d (by (simp;done)) rfl) aG)) ?_;refine ar ?_;refine aL rfl (λc a=>(qH (q:=1) underlying88 pz rfl rfl rfl a7 aa aG)) ?_;refine aL rfl (λc a=>(ba qM rfl rfl (λe b=>by subst b;exact a.bV (o:=2) d av rfl) aG)) ?_;refine al ?_;intro h f;exact⟨rfl,f.ext⟩
theorem o3 (w:World) (g par:Nat) (T:bK) (a: (eI g par T).pred w):Calls prog 14 [ptr g].toArray w (Pure (ptr (firstT T).g) w):=by
 obtain⟨am,bj,use,b6,cg,bL,buf,aF⟩:=T;refine aW func14 ntmps14 ?_;refine hh ?_;refine qH (q:=0) underlying88 pz rfl rfl rfl a7 aa ?_;refine ba qM rfl rfl (λd b=>b.bV (o:=1) a av rfl) ?_;refine ay ?_;intro e c;exact⟨by cases use <;> rfl,c.ext⟩
end
section
theorem eg.k {k:Nat} {s:bk} {v:Value} {q:bd} {w w':World} {e:Ending} (h:eg s v q w e w') (a:cP k s.abs q):dW k s v w e w':=aP.mono h (λi hi=>⟨i,hi.gV a,rfl,rfl⟩)
section
variable {w:World} {s:bk}
theorem Tb (b:bb w (aO s)) (a:dS s):Calls prog 156 [ptr s.g].toArray w (dW 0 s (.tuple #[]) w):=(Rh w s b a.g a.ok).mono (λ_ _ h=>h.k (Rg _))
theorem HX (b:bb w (aO s)) (a:dS s) (c:s.ap.be.l.length≤1000000000000):Calls prog 158 [ptr s.g].toArray w (dW 2 s (.tuple #[]) w):=(xH w s b a.g a.ok aa).mono (λ_ _ h=>h.k (sS _))
theorem th (a:bb w (aO s)) (b:dS s):Calls prog 160 [ptr s.g].toArray w (dW 0 s (.tuple #[]) w):=(G2 w s a b.g).mono (λ_ _ h=>h.k (sW _))
theorem rk (b:bb w (aO s)) (a:dS s) (y x:Int):Calls prog 242 [ptr s.g,.int .i64 y,.int .i64 x].toArray w (dW 0 s (.tuple #[]) w):=(G3 w s b a.g a.ok y x).mono (λ_ _ h=>h.k (G0 _ _ _))
theorem nL (b:bb w (aO s)) (a:dS s) (y x:Int):Calls prog 241 [ptr s.g,.int .i64 y,.int .i64 x].toArray w (dW 0 s (.tuple #[]) w):=(RC w s b a.g a.ok y x).mono (λ_ _ h=>h.k (Rz _ _ _))
theorem HY (b:bb w (aO s)) (a:dS s) (y x:Int):Calls prog 253 [ptr s.g,.int .i64 y,.int .i64 x].toArray w (dW 0 s (.tuple #[]) w):=(Rw w s b a.g a.ok y x).mono (λ_ _ h=>h.k (Ru _ _ _))
theorem HZ (a:bb w (aO s)) (b:dS s) (p x h:Bool):Calls prog 328 [ptr s.g,.agg [.bool p,.bool x,.bool h].toArray].toArray w (dW 0 s (.tuple #[]) w):=(Rx w s a b.g p x h).mono (λ_ _ h=>h.k (sZ _ _))
theorem nM (a:bb w (aO s)) (b:dS s) (c:fO):Calls prog 161 [ptr s.g,.agg c.enc.toArray].toArray w (dW 0 s (.tuple #[]) w):=(RA w s a b.g c).mono (λ_ _ h=>h.k (sZ _ _))
theorem Tc (b:bb w (aO s)) (a:dS s) (k:Int):Calls prog 234 [ptr s.g,.int .i64 k].toArray w (dW 0 s (.tuple #[]) w):=(A1 w s b a.g a.ok k).mono (λ_ _ h=>h.k (u5 _ _))
theorem o4 (b:bb w (aO s)) (a:dS s) (c:s.ap.be.l.length≤1000000000000) (k:Int):Calls prog 233 [ptr s.g,.int .i64 k].toArray w (dW 1 s (.tuple #[]) w):=(RF w s b a.g a.ok aa k).mono (λ_ _ h=>h.k (RE _ _))
theorem Td (b:bb w (aO s)) (a:dS s) (k:Int):Calls prog 243 [ptr s.g,.int .i64 k].toArray w (dW 0 s (.tuple #[]) w):=(Rl w s b a.g a.ok k).mono (λ_ _ h=>h.k (Ri _ _))
theorem Te (b:bb w (aO s)) (a:dS s) (k:Int):Calls prog 246 [ptr s.g,.int .i64 k].toArray w (dW 0 s (.tuple #[]) w):=(Rm w s b a.g a.ok k).mono (λ_ _ h=>h.k (Rj _ _))
theorem Tf (b:bb w (aO s)) (a:dS s) (k:Int):Calls prog 248 [ptr s.g,.int .i64 k].toArray w (dW 0 s (.tuple #[]) w):=(Rn w s b a.g a.ok k).mono (λ_ _ h=>h.k (Rk _ _))
theorem Tg (b:bb w (aO s)) (a:dS s) (c:s.ap.be.l.length≤1000000000000) (k:Int):Calls prog 244 [ptr s.g,.int .i64 k].toArray w (dW 2000 s (.tuple #[]) w):=(Rs w s b a.g a.ok aa k).mono (λ_ _ h=>h.k (Ro _ (sY a.ok) _))
theorem Th (b:bb w (aO s)) (a:dS s) (c:s.ap.be.l.length≤1000000000000) (k:Int):Calls prog 245 [ptr s.g,.int .i64 k].toArray w (dW 2000 s (.tuple #[]) w):=(Rt w s b a.g a.ok aa k).mono (λ_ _ h=>h.k (Rp _ (sY a.ok) _))
theorem H0 (b:bb w (aO s)) (a:dS s) (c:s.ap.be.l.length≤1000000000000) (k:Int):Calls prog 247 [ptr s.g,.int .i64 k].toArray w (dW 2000 s (.tuple #[]) w):=(Rr w s b a.g a.ok aa k).mono (λ_ _ h=>h.k (Rq _ (sY a.ok) _))
theorem Ti (b:bb w (aO s)) (a:dS s) (c:s.ap.be.l.length≤1000000000000) (k:Int):Calls prog 249 [ptr s.g,.int .i64 k].toArray w (dW 2000000 s (.tuple #[]) w):=(RJ w s b a.g a.ok aa k).mono (λ_ _ h=>h.k (RI _ _ a.ok))
theorem tj (b:bb w (aO s)) (a:dS s):Calls prog 215 [ptr s.g].toArray w (dW 0 s (.tuple #[]) w):=(SR w s b a.g a.ok).mono (λ_ _ h=>h.k (Ry _))
theorem Tj (b:bb w (aO s)) (a:dS s):Calls prog 311 [ptr s.g].toArray w (dW 0 s (.tuple #[]) w):=(R4 w s b a.g a.ok).mono (λ_ _ h=>h.k (R1 _))
theorem BR (b:bb w (aO s)) (a:dS s):Calls prog 238 [ptr s.g].toArray w (dW 0 s (.tuple #[]) w):=(RZ w s b a.g a.ok.bC).mono (λ_ _ h=>h.k (RW _))
theorem Tk (b:bb w (aO s)) (a:dS s) (c:s.ap.be.l.length≤1000000000000):Calls prog 217 [ptr s.g].toArray w (dW 2 s (.tuple #[]) w):=(Q_ w s b a.g a.ok aa).mono (λ_ _ h=>h.k (Q6 _))
theorem Tl (bs:List Bool) (x:Nat) (h:x<bs.length):cK.jh bs x<bs.length:=cK.Gy x aa
theorem Tm (bs:List Bool) (x:Nat) (h:x<bs.length):cK.iF bs x<bs.length:=by have:=cK.AW bs x;omega
theorem Tn (n:Nat) (x:Int) (h:0<n):cK.xv n x<n:=by unfold cK.xv;omega
theorem uW {f:Nat→Nat} {n:Nat} (a: ∀x,x<n→f x<n): ∀k x,x<n→cK.iter f k x<n
 | 0,_,h=>h
 | k+1,x,h=>a _ (uW a k x h)
theorem H1 {f:Nat→Nat} {len:Nat} (a: ∀x,x<len→f x<len) (x n:Int) (h:0<len):cK.ny f len x n<len:=uW a _ _ (Tn _ _ h)
theorem To (s:bk) (a:dS s) (n:Int):cP 0 s.abs (s4 s.abs n):=by
 have b:=a.g.n
 have f:=(a.ok.nums).2.1
 have c:0<s.st.bs.length:=by omega
 have d:=H1 (Tl s.st.bs) (fu s.abs) n c
 have e:=H1 (Tm s.st.bs) (fu s.abs) (max 0 (0 - max n (-1000))) c
 unfold s4;split
 exact cP.refl _;split
 refine oM _ (λ_=>?_);show _∧_≤s.ap.cols
 rw[←b];exact⟨rI _,Int.ofNat_le.2 (Nat.le_of_lt d)⟩;refine oM _ (λ_=>?_);show _∧_≤s.ap.cols
 rw[←b];exact⟨rI _,Int.ofNat_le.2 (Nat.le_of_lt e)⟩
theorem BS (b:bb w (aO s)) (a:dS s) (c: ∀w',Ext (aB (aO s)) w w'→cK.mG w') (k:Int):Calls prog 157 [ptr s.g,.int .i64 k].toArray w (dW 0 s (.tuple #[]) w):=(RG w s b c a.g a.ok k).mono (λ_ _ h=>h.k (To s a k))
end
end
end Go.Proofs.YtkeokgcdnfjaaaaGreatDoor.Mq
namespace Go.Proofs.YtkeokgcdnfjaaaaGreatDoor.Mq.dt
open Go Go.RowKit Go.Proofs Tryz
def BT:Shelf.Ren:=⟨λ| 129=>290 | 171=>326 | 243=>387 | 246=>419 | 283=>438 | 284=>439 | 285=>440 | 286=>441 | 317=>454 | 318=>455 | 319=>456 | 320=>457 | 337=>467 | 338=>377 | n=>n,λ| 0=>0 | 2=>2 | 3=>3 | 4=>4 | 5=>5 | 9=>9 | 20=>20 | 37=>62 | 46=>258 | 51=>89 | 53=>34 | 171=>439 | 173=>441 | 212=>448 | 213=>449 | 232=>465 | 233=>428 | n=>n,λ| 17=>2 | 18=>7 | 19=>0 | n=>n⟩
theorem BU:LaysM.n171 prog BT where
 mixed:=by kernel_rfl
 f129:=func290.trans (aX some ab)
 f171:=func326.trans (aX some ab)
 f243:=func387.trans (aX some ab)
 f246:=func419.trans (aX some ab)
 f283:=func438.trans (aX some ab)
 f284:=func439.trans (aX some ab)
 f285:=func440.trans (aX some ab)
 f286:=func441.trans (aX some ab)
 f317:=func454.trans (aX some ab)
 f318:=func455.trans (aX some ab)
 f319:=func456.trans (aX some ab)
 f320:=func457.trans (aX some ab)
 f337:=func467.trans (aX some ab)
 f338:=func377.trans (aX some ab)
 t0:=underlying0
 a0:=isAgg0
 z0:=sizeOf0
 v0:=zeroValue0
 t2:=underlying2
 a2:=isAgg2
 z2:=sizeOf2
 v2:=zeroValue2
 t3:=underlying3
 a3:=isAgg3
 z3:=sizeOf3
 v3:=zeroValue3
 t4:=underlying4
 a4:=isAgg4
 z4:=sizeOf4
 v4:=zeroValue4
 t5:=underlying5
 a5:=isAgg5
 z5:=sizeOf5
 v5:=zeroValue5
 t9:=underlying9
 a9:=isAgg9
 z9:=sizeOf9
 v9:=zeroValue9
 t20:=underlying20
 a20:=isAgg20
 z20:=sizeOf20
 v20:=zeroValue20
 t37:=underlying62
 a37:=isAgg62
 z37:=sizeOf62
 v37:=zeroValue62
 t46:=underlying258
 a46:=isAgg258
 z46:=sizeOf258
 v46:=zeroValue258
 t51:=underlying89
 a51:=isAgg89
 z51:=sizeOf89
 v51:=zeroValue89
 t53:=underlying34
 a53:=isAgg34
 z53:=sizeOf34
 v53:=zeroValue34
 t171:=underlying439
 a171:=isAgg439
 z171:=sizeOf439
 v171:=zeroValue439
 t173:=underlying441
 a173:=isAgg441
 z173:=sizeOf441
 v173:=zeroValue441
 t212:=underlying448
 a212:=isAgg448
 z212:=sizeOf448
 v212:=zeroValue448
 t213:=underlying449
 a213:=isAgg449
 z213:=sizeOf449
 t232:=underlying465
 a232:=isAgg465
 z232:=sizeOf465
 v232:=zeroValue465
 t233:=underlying428
 a233:=isAgg428
 z233:=sizeOf428
 v233:=zeroValue428
 g17:=by kernel_rfl
 g18:=by kernel_rfl
 g19:=by kernel_rfl
 i0:=by kernel_rfl
 i2:=by kernel_rfl
 i3:=by kernel_rfl
 i4:=by kernel_rfl
 i5:=by kernel_rfl
 i9:=by kernel_rfl
 i20:=by kernel_rfl
 i37:=by kernel_rfl
 i46:=by kernel_rfl
 i51:=by kernel_rfl
 i53:=by kernel_rfl
 i171:=by kernel_rfl
 i173:=by kernel_rfl
 i212:=by kernel_rfl
 i232:=by kernel_rfl
 i233:=by kernel_rfl
 m17:=by kernel_rfl
 m18:=by kernel_rfl
 m19:=by kernel_rfl
def fv (w:World):Prop:=Lib.TabIs prog w "internal/strconv.uint64pow10" .u64 Lib.pow10Tab
theorem vk {P:Program} {w w':World} {nm:String} {k:IntKind} {b:List Int} (h:Lib.TabIs P w nm k b) (c:Ext [] w w'):Lib.TabIs P w' nm k b:=by
 unfold Lib.TabIs World.var? at *
 obtain⟨g,d,a⟩:=lD.1 h;refine lD.2 ⟨g,d,?_⟩;have e:g<w.heap.size:=by
  rcases e1 g w.heap.size with h | h
  exact h;rw[rH h] at a;cases a
 rw[c.block g e av];exact a
theorem fv.ext {w w':World} (h:fv w) (a:Ext [] w w'):fv w':=vk h a
theorem BV (w:World) (k:Nat) (os:Array Obj):Ext [] w (Sort.grow (w.drewN k) os):=by
 refine⟨rfl,rfl,rfl,?_,λb a _=>?_⟩;show w.heap.size≤(w.heap++os).size
 simp
 show (w.heap++os)[b]? = w.heap[b]?
 rw[tS a]
theorem vl (w:World) (a:fv w) (n:Int) (h: -9223372036854775808≤n∧n≤9223372036854775807):
 Calls prog 326 [.int .i64 n].toArray w (λe w'=>e= .returned (.string (bs (Lib.itoa n)))∧Ext [] w w'):=by
 refine Calls.mono (Any.strconv_Itoa BU n h.1 h.2 w a) ?_;rintro e w' ⟨rfl,k,os,rfl⟩;exact⟨rfl,BV w k os⟩
theorem vm:ad prog 326:=ad.of func326 ab ab
def rl:List Int:=[4,20,1,5,6,7,25,47,66,1000,1002,1003,1004,1006,1047,1048,1049,2004]
abbrev x6:List Value:=rl.map (Value.int .i64)
def kG (p:Bool) (n:Int) (i:Nat):Bool:=decide (rl[i]? = some n) && (p == decide (2≤i))
def j5 (p:Bool) (n:Int):Option Nat:=(List.range 18).find? (kG p n)
def j6 (p:Bool) (n:Int):Int:=match j5 p n with | some k=>(k:Int) | none=> -1
theorem x7 {p:Bool} {n:Int} {k:Nat} (h:j5 p n=some k):k<18:=by
 have:=List.mem_of_find?_eq_some h
 simpa using this
theorem Tp {p:Bool} {n:Int} {k:Nat} (h:j5 p n=some k):kG p n k=true:=List.find?_some h
theorem Tq {p:Bool} {n:Int} {i j:Nat} (hi:kG p n i=true) (a:kG p n j=true):i=j:=by
 have b: ∀i,i<18→ ∀j,j<18→rl[i]? = rl[j]? →i=j:=by decide
 simp only[kG,dY,e3] at hi a
 have c:=(cU.1 hi.1).1
 have d:=(cU.1 a.1).1
 exact b i c j d (hi.1.trans a.1.symm)
theorem Tr {p:Bool} {n:Int} {k:Nat} (h:kG p n k=true):j5 p n=some k:=by
 have b:k<18:=by
  simp only[kG,dY,e3] at h
  exact (cU.1 h.1).1
 cases a:j5 p n with
 | none=>
  have:=List.find?_eq_none.1 a k (by simpa using b)
  exact absurd h this
 | some j=>rw[Tq h (Tp a)]
theorem Ts {p:Bool} {n:Int} (h: ∀j,j<18→kG p n j=false):j5 p n=none:=by
 refine List.find?_eq_none.2 λj a=>?_
 rw[h j (by simpa using a)];simp
theorem qd (w:World):Calls prog 203 [].toArray w (λe w'=>e= .returned (.agg x6.toArray)∧Ext [] w w'):=by
 refine aW func203 ntmps203 ?_;refine ah ?_;intro b c d;refine ay ?_;refine eX LR rfl rfl cz a7 (aI.cons rfl (aI.cons rfl (aI.cons rfl (aI.cons rfl (aI.cons rfl (aI.cons rfl (aI.cons rfl (aI.cons rfl (fY rfl rfl rfl rfl rfl rfl rfl rfl rfl rfl))))))))) (dT rfl) ?_;refine aS ?_;intro f a;exact⟨rfl,a.ext⟩
theorem sy (w:World) (p:Bool) (n:Int):Calls prog 147 [.bool p,.int .i64 n].toArray w (λe w'=>e= .returned (.int .i64 (j6 p n))∧Ext [] w w'):=by
 refine aW func147 ntmps147 ?_;refine aK ?_;refine ao rfl Ng rfl (λw' _=>qd w') ?_;refine aS ?_;refine b3 (ι:=Nat) (λi=>[(0,.bool p),(1,.int .i64 n),(7,.agg x6.toArray),(8,.int .i64 (i:Int))]) (λ_=>af w [] []) (λi=>i≤18∧ ∀j,j<i→kG p n j=false) (λi=>18 - i) ?_ ?_;exact λw a=>⟨0,⟨aa,by intro j l;omega⟩,(cu rfl rfl rfl rfl),a⟩
 rintro i ⟨hi,c⟩;refine al ?_;refine aj (λo=>?_) (λo=>?_);obtain⟨x,m⟩ : ∃x,rl[i]? = some x:=⟨rl[i]'(by simp[rl];omega),bE _⟩;have r:x6[i]? = some (.int .i64 x):=by rw[x6,eJ,m];rfl
 refine aC ?_;refine lH (q:=i) underlying298 bM rfl rfl rfl aa aa r ?_;refine aR ?_;have s:decide (2≤i)=decide ((2 :Int)≤(i:Int)):=by rw[gG];omega
 have d:kG p n i=(decide (x=n) && (p == decide ((2 :Int)≤(i:Int)))):=by simp only[kG,m,s,dz]
 refine aV 15 rfl (λf=>?_) (λf=>?_);have b:=aY f
 refine aC ?_;refine ze underlying4 rfl rfl rfl ?_;refine ah ?_;refine aj (λg=>?_) (λg=>?_);refine bH ?_;intro t a;refine⟨?_,a.ext⟩;have ai:kG p n i=true:=by rw[d,b];simpa using g
 rw[j6,Tr ai];refine aC ?_;have ai:kG p n i=false:=by rw[d,b];simpa using g
 refine bg (i+1) ⟨aa,λj l=>?_⟩ aa (cu rfl rfl rfl rfl) (λw' k=>k);rcases e1 j i with h | h
 exact c j h;obtain rfl:j=i:=by omega
 exact ai;have b:=a8 f
 refine cE ?_;have ai:kG p n i=false:=by rw[d];simp only[tU];exact .inl (by simpa using b)
 refine bg (i+1) ⟨aa,λj l=>?_⟩ aa (cu rfl rfl rfl rfl) (λw' k=>k);rcases e1 j i with h | h
 exact c j h;obtain rfl:j=i:=by omega
 exact ai;have u:i=18:=by omega
 subst u;refine bw ?_;intro t a;refine⟨?_,a.ext⟩;rw[j6,Ts c]
theorem Tt (p:Bool) (n:Int): -1≤j6 p n∧j6 p n<18:=by
 unfold j6;split
 rename_i k a;have:=x7 a
 omega
 omega
theorem Tu (w:World) (p:Bool) (n:Int):Calls prog 236 [.bool p,.int .i64 n].toArray w (λe w'=>e= .returned (.bool (j5 p n).isSome)∧Ext [] w w'):=by
 refine aW func236 ntmps236 ?_;refine aJ ?_;refine ao rfl zG rfl (λw' _=>sy w' p n) ?_;refine al ?_;intro b a;refine⟨?_,a.ext⟩;unfold j6;cases j5 p n with
 | some k=>simp
 | none=>simp
abbrev tk (b:Nat):Value:= .agg #[.int .u32 (b:Int)]
def cR (b:Nat) (p:Bool) (n:Int) (a:Bool):Nat:=
 match j5 p n with
 | none=>b
 | some k=>if a then b ||| 2 ^ k else b &&& (4294967295 - 2 ^ k)
theorem o5 {b:Nat} (h:b<4294967296) (p:Bool) (n:Int) (a:Bool):cR b p n a<4294967296:=by
 unfold cR;split
 exact h;rename_i k c;have:=x7 c
 split
 exact oa (n:=32) h (qE a1 aa);exact qB Nat.and_le_left h
theorem H2 {k:Nat} (b:k<18):IntKind.u32.wrap (1*2 ^ min ((k:Int)).toNat IntKind.u32.bits)=((2 ^ k:Nat):Int):=by
 have a:2 ^ k<4294967296:=qE (n:=32) a1 aa
 rw[gZ,iv (by simp only[IntKind.bits];omega),Int.one_mul];have: ((2 :Int) ^ k)=((2 ^ k:Nat):Int):=by simp
 rw[this];exact wW (rI _) (Int.ofNat_lt.2 a)
theorem oz (w:World) (b:Nat) (d:b<4294967296) (p:Bool) (n:Int) (g:Bool):
 Calls prog 101 [tk b,.bool p,.int .i64 n,.bool g].toArray w (λe w'=>e= .returned (tk (cR b p n g))∧Ext [] w w'):=by
 have x:=Tt p n
 refine aW func101 ntmps101 ?_;refine ah ?_;intro y z A;refine aq ?_;intro B C D;refine al ?_;refine ao rfl zG rfl (λw' _=>sy w' p n) ?_;refine bw ?_;refine aj (λa=>?_) (λa=>?_);refine bo ?_;intro q c;refine⟨?_,c.ext⟩;unfold cR;unfold j6 at a
 cases h:j5 p n with
 | none=>rfl
 | some k=>rw[h] at a;simp at a;omega
 obtain⟨k,f⟩ : ∃k,j5 p n=some k:=by
  unfold j6 at a
  cases h:j5 p n with
  | none=>rw[h] at a;simp at a
  | some k=>exact⟨k,rfl⟩
 have t:j6 p n=(k:Int):=by rw[j6,f]
 have s:=x7 f
 rw[t];refine al ?_;have i:2 ^ k<4294967296:=qE (n:=32) a1 aa
 have u:b ||| 2 ^ k<4294967296:=oa (n:=32) d i
 have v:b &&& (4294967295 - 2 ^ k)<4294967296:=qB Nat.and_le_left d
 refine b2 rfl (λj=>?_) (λj=>?_);refine bG [0,1,2,3,4,5] 1 [[(6,true,[])]] ?_;refine ah ?_;refine aL rfl (λl o=>(ox (r:=((2 ^ k:Nat):Int)) rfl rfl rfl aa (H2 s) aG)) ?_;refine aL rfl (λl o=>(mz (r:=((b ||| 2 ^ k:Nat):Int)) rfl rfl rfl (or_eq (m:=b) (n:=2 ^ k) rfl rfl d i (wW (rI _) (Int.ofNat_lt.2 u))) aG)) ?_;refine ef ?_;intro q c;refine⟨?_,c.ext⟩;rw[cR,f,j];rfl
 refine bG [0,1,2,3,4,5] 1 [[(6,true,[])]] ?_;refine ah ?_;refine aL rfl (λl o=>(ox (r:=((2 ^ k:Nat):Int)) rfl rfl rfl aa (H2 s) aG)) ?_;refine aL rfl (λl o=>(uz (r:=((b &&& (4294967295 - 2 ^ k):Nat):Int)) rfl rfl rfl (Fq (m:=b) (n:=2 ^ k) rfl rfl d i (wW (rI _) (Int.ofNat_lt.2 v))) aG)) ?_;refine ef ?_;intro q c;refine⟨?_,c.ext⟩;rw[cR,f];have:g=false:=by simpa using j
 rw[this];rfl
def BW (b k:Nat):Bool:=decide (b/2 ^ k%2=1)
def rm (b:Nat) (p:Bool) (n:Int):Bool:=match j5 p n with | some k=>BW b k | none=>false
theorem Tv (b k:Nat) (a:b<4294967296):IntKind.u32.wrap ((BitVec.ofInt IntKind.u32.bits ((b:Int)/2 ^ min ((k:Int)).toNat 32) &&& BitVec.ofInt IntKind.u32.bits 1).toNat:Int)=((b/2 ^ min k 32%2 :Nat):Int):=by
 have c:b/2 ^ min k 32<4294967296:=qB (Nat.div_le_self _ _) a
 refine and_eq (m:=b/2 ^ min k 32) (n:=1) ?_ rfl c a1 ?_;rw[gZ,Int.natCast_ediv];simp
 rw[Nat.and_one_is_mod];exact wW aa aa
theorem qe (w:World) (b:Nat) (f:b<4294967296) (p:Bool) (n:Int):
 Calls prog 159 [tk b,.bool p,.int .i64 n].toArray w (λe w'=>e= .returned (.bool (rm b p n))∧Ext [] w w'):=by
 refine aW func159 ntmps159 ?_;refine ah ?_;intro i j l;refine aC ?_;refine ao rfl zG rfl (λw' _=>sy w' p n) ?_;refine aK ?_;cases a:j5 p n with
 | none=>
  have c:j6 p n= -1:=by rw[j6,a]
  rw[c];refine bw ?_;intro g d;exact⟨by rw[rm,a],d.ext⟩
 | some k=>
  have c:j6 p n=(k:Int):=by rw[j6,a]
  have m:=x7 a
  rw[c];refine cA rfl rfl av ?_;refine aq ?_;refine cA rfl rfl av ?_;refine aq ?_;refine cA rfl rfl av ?_;refine aq ?_;refine cA rfl rfl av ?_;refine pM rfl rfl rfl aa rfl ?_;refine cA rfl rfl av ?_;refine qV rfl rfl rfl (Tv b k f) ?_;refine cA rfl rfl av ?_;refine aq ?_;refine zb rfl rfl av rfl ?_;refine ay ?_;intro g d;refine⟨?_,d.ext⟩;have h:decide (((b/2 ^ k%2 :Nat):Int)=1)=BW b k:=by
   rw[BW,gG];exact Int.ofNat_inj (n:=1)
  rw[rm,a,iv aa,h]
def tl (p:Bool) (n:Int):List UInt8:=(if p then [63] else [])++Lib.itoa n
theorem H3 (p:Bool) (n:Int) (h: -9223372036854775808≤n∧n≤9223372036854775807): (tl p n).length≤22:=by
 have:=Lib.itoa_length_le n h.1 h.2
 unfold tl;rw[b0];split <;> simp <;> omega
theorem BX (w:World) (d:fv w) (p:Bool) (n:Int) (h: -9223372036854775808≤n∧n≤9223372036854775807):
 Calls prog 237 [.bool p,.int .i64 n].toArray w (λe w'=>e= .returned (.string (bs (tl p n)))∧Ext [] w w'):=by
 have g:=Lib.itoa_length_le n h.1 h.2
 refine aW func237 ntmps237 ?_;refine bo ?_;refine b2 rfl (λa=>?_) (λa=>?_);refine ah ?_;refine ao rfl vm rfl (λw' b=>vl w' (d.ext b.ext) n h) ?_;refine eE rfl rfl rfl b4 ?_;refine al ?_;intro f c;exact⟨by rw[tl,ax a],c.ext⟩;refine ay ?_;refine ao rfl vm rfl (λw' b=>vl w' (d.ext b.ext) n h) ?_;refine ay ?_;intro f c;exact⟨by rw[tl,ag (by simp[a])];rfl,c.ext⟩
def o6:Nat:=96
theorem Tw:cR (cR 0 true 7 true) true 25 true=o6:=by decide
theorem uY (w:World):Calls prog 68 [].toArray w (λe w'=>e= .returned (tk o6)∧Ext [] w w'):=by
 refine aW func68 ntmps68 ?_;refine ah ?_;intro c d f;refine ay ?_;refine ao rfl qQ rfl (λw' a=>oz w' 0 a1 true 7 true) ?_;refine ao rfl qQ rfl (λw' a=>oz w' _ (o5 a1 _ _ _) true 25 true) ?_;rw[Tw];refine ay ?_;intro g b;exact⟨rfl,b.ext⟩
def qf (b:Nat) (p:Bool) (n:Int):List UInt8:=[27,91]++tl p n++[59]++[if rm b p n then 49 else if (j5 p n).isSome then 50 else 48]++[36,121]
theorem H4 (w:World) (f:fv w) (b:Nat) (j:b<4294967296) (p:Bool) (n:Int) (h: -9223372036854775808≤n∧n≤9223372036854775807):
 Calls prog 172 [tk b,.bool p,.int .i64 n].toArray w (λe w'=>e= .returned (.string (bs (qf b p n)))∧Ext [] w w'):=by
 have k:=H3 p n h
 refine aW func172 ntmps172 ?_;refine ah ?_;intro l m o;refine cE ?_;refine ao rfl na rfl (λw' a=>qe w' b j p n) ?_;refine ah ?_;refine b2 rfl (λd=>?_) (λd=>?_);refine aJ ?_;refine ao rfl zN rfl (λw' a=>BX w' (f.ext a.ext) p n h) ?_;refine eE rfl rfl rfl b4 ?_;refine eE rfl rfl rfl b4 ?_;refine aq ?_;refine eE rfl rfl rfl b4 ?_;refine eE rfl rfl rfl b4 ?_;refine ay ?_;intro i c;exact⟨by rw[qf,ax d],c.ext⟩;refine aS ?_;refine ao rfl Ns rfl (λw' a=>Tu w' p n) ?_;refine ah ?_;refine b2 rfl (λg=>?_) (λg=>?_);refine aJ ?_;refine ao rfl zN rfl (λw' a=>BX w' (f.ext a.ext) p n h) ?_;refine eE rfl rfl rfl b4 ?_;refine eE rfl rfl rfl b4 ?_;refine aq ?_;refine eE rfl rfl rfl b4 ?_;refine eE rfl rfl rfl b4 ?_;refine ay ?_;intro i c;exact⟨by rw[qf,ag (by simp[d]),ax g],c.ext⟩;refine aC ?_;refine ao rfl zN rfl (λw' a=>BX w' (f.ext a.ext) p n h) ?_;refine eE rfl rfl rfl b4 ?_;refine eE rfl rfl rfl b4 ?_;refine aq ?_;refine eE rfl rfl rfl b4 ?_;refine eE rfl rfl rfl b4 ?_;refine ay ?_;intro i c;exact⟨by rw[qf,ag (by simp[d]),ag (by simp[g])],c.ext⟩
end Go.Proofs.YtkeokgcdnfjaaaaGreatDoor.Mq.dt
