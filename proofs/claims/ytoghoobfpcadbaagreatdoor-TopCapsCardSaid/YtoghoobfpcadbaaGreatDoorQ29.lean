/- part 29 of the proof -/
import Derived.Test.YtoghoobfpcadbaaGreatDoorQ28
namespace Go.Proofs.YtoghoobfpcadbaaGreatDoor.Mq
open Go Go.RowKit Go.Proofs Tryz
theorem I3 (T:bK): (T.cc=T.am.g∧T.dS=T.bk.g)∨(T.cc=T.bk.g∧T.dS=T.am.g):=by
 unfold bK.cc bK.dS;cases T.use
 exact .inl ⟨rfl,rfl⟩;exact .inr ⟨rfl,rfl⟩
theorem kQ.trans {A a C:bK} (h:kQ A a) (k:kQ a C):kQ A C:=⟨k.use.trans h.use,k.am.trans h.am,k.bk.trans h.bk⟩
theorem yB [Inhabited bN] (w:World) (g par:Nat) (X:Chunk) (T:bK) (r:a8 w (bz g par X T)) {R:Int} {m:Nat} (s:cp g R m T):
 Calls prog 253 [ptr g].toArray w (hy g par X R m (.tuple #[]) T w):=by
 refine bC func253 ntmps253 r ?_;refine ax ?_;refine cy (vs:=[ptr T.cc,ptr T.dS]) DV rfl rfl rfl (λF v j u y=>v.k5 (sz:=2) (xs:=o7 par T) aQ rfl j u y) ?_;refine aS ?_;refine b1 (ι:=Nat × bK) (λt=>[(0,ptr g),(7,.agg [ptr T.cc,ptr T.dS].toArray),(8,.int .i64 (t.1 :Int))]) (λt=>af w (aA (bz g par X T)) (bz g par X t.2)) (λt=>t.1≤2∧cp g R m t.2∧kQ T t.2) (λt=>2 - t.1) ?_ ?_;exact λw' z=>⟨(0,T),⟨bP _,s,rfl,rfl,rfl⟩,(ef rfl rfl rfl),z⟩
 rintro⟨i,bu⟩ ⟨hi,b,c⟩;dsimp only at hi b c ⊢
 refine al ?_;have A:i<2→ ∃q,[ptr T.cc,ptr T.dS][i]? = some (ptr q)∧(q=bu.am.g∨q=bu.bk.g):=λG=>by
  rw[c.am,c.bk];rcases I3 T with ⟨l,n⟩ | ⟨l,n⟩ <;> (rcases (by omega:i=0∨i=1) with rfl | rfl) <;> simp[l,n]
 refine aj (λB=>?_) (λB=>?_);obtain⟨q,p,C⟩:=A aa;rcases C with ai | ai
 refine al ?_;refine lP (q:=i) underlying75 qS rfl rfl rfl aa aa p ?_;refine ah ?_;refine bF [0,1,2,3,4,6,7,8,9,11,12,13,14] 4 [[(5,false,[]),(10,false,[]),(15,false,[16]),(17,true,[])]] ?_;refine cI ?_;refine ao rfl ng rfl (λa d=>dz.qk a bu.ca b.md _ _) ?_;refine ah ?_;refine ao rfl ng rfl (λa d=>dz.qk a bu.ca b.md _ _) ?_;refine ah ?_;refine ao rfl ng rfl (λa d=>dz.qk a bu.ca b.md _ _) ?_;refine bV (λ_=>True) (λ_ h=> .inr ⟨.inr ⟨.inr h,cz⟩,cz⟩) (λ_ h=>aT) ?_;refine ah ?_;refine fA (k:=0) b ai rfl E3 rfl (λa o x=>H6 o b.am _ _ _) (λV e D f=>?_);refine aJ ?_;exact bg (i+1,V) ⟨aa,e,c.trans f⟩ bm bR (λ_ h=>h);refine al ?_;refine lP (q:=i) underlying75 qS rfl rfl rfl aa aa p ?_;refine ah ?_;refine bF [0,1,2,3,4,6,7,8,9,11,12,13,14] 4 [[(5,false,[]),(10,false,[]),(15,false,[16]),(17,true,[])]] ?_;refine cI ?_;refine ao rfl ng rfl (λa d=>dz.qk a bu.ca b.md _ _) ?_;refine ah ?_;refine ao rfl ng rfl (λa d=>dz.qk a bu.ca b.md _ _) ?_;refine ah ?_;refine ao rfl ng rfl (λa d=>dz.qk a bu.ca b.md _ _) ?_;refine bV (λ_=>True) (λ_ h=> .inr ⟨.inr ⟨.inr h,cz⟩,cz⟩) (λ_ h=>aT) ?_;refine ah ?_;refine vI (k:=0) b ai rfl E3 rfl (λa o x=>H6 o b.bk _ _ _) (λV e D f=>?_);refine aJ ?_;exact bg (i+1,V) ⟨aa,e,c.trans f⟩ bm bR (λ_ h=>h);refine ax ?_;intro H E;exact aN bu b E
abbrev I4 (m:Nat):Nat:=dz.cV (dz.cV (dz.cV (dz.cV m false 4 false) true 6 false) true 7 true) true 25 true
theorem Vd {m:Nat} (h:m<4294967296):I4 m<4294967296:=dz.o_ (dz.o_ (dz.o_ (dz.o_ h _ _ _) _ _ _) _ _ _) _ _ _
theorem cp.Ve {g:Nat} {R:Int} {m:Nat} {T:bK} (h:cp g R m T) {b:Nat} (a:b<4294967296):cp g R m { T with ca:=b }:=⟨h.am,h.bk,h.room,h.bL,h.cl,h.be,h.buf,h.aG,a⟩
theorem qn [Inhabited bN] (w:World) (g par:Nat) (X:Chunk) (T:bK) (d:a8 w (bz g par X T)) {R:Int} {m:Nat} (a:cp g R m T) (p:Bool) (n:Int) (b:Bool):
 Calls prog 236 [ptr g,.bool p,.int .i64 n,.bool b].toArray w (hy g par X R m (.tuple #[]) T w):=by
 have e:cp g R m { T with ca:=dz.cV T.ca p n b }:=⟨a.am,a.bk,a.room,a.bL,a.cl,a.be,a.buf,a.aG,dz.o_ a.md p n b⟩
 refine bC func236 ntmps236 d ?_;refine aR ?_;refine ao rfl qW rfl (λc i=>dz.oE c T.ca a.md _ _ _) ?_;refine aD ?_;refine ge (T:={ T with ca:=dz.cV T.ca p n b }) rfl wX rfl (λc o=>yB c g par X _ o e) (λV f=>?_);refine aq ?_;intro j h;exact aN V f h
theorem mf [Inhabited bN] (w:World) (g par:Nat) (X:Chunk) (T:bK) (d:a8 w (bz g par X T)) {R:Int} {m:Nat} (b:cp g R m T):
 Calls prog 230 [ptr g].toArray w (hy g par X R m (.tuple #[]) T w):=by
 refine bC func230 ntmps230 d ?_;refine ah ?_;refine ao rfl fc rfl (λa c=>fe a g par T (c.has aQ)) ?_;refine fA (k:=0) b bb rfl Oc rfl (λa o x=>TA o b.am) (λT b ai f=>?_);refine ax ?_;refine ao rfl fc rfl (λa c=>fe a g par T (c.has aQ)) ?_;refine ao rfl ja rfl (λa c=>jp a T.am (c.eg (l:=aP T.am) bH Has.head)) ?_;refine j9 (t:=93) (off:=13) ab DW rfl rfl rfl ?_;refine HD (t:=4) (off:=2) ab pE rfl rfl rfl ?_;refine ge rfl pK rfl (λa o=>qn a g par X T o b _ _ _) (λT b=>?_);refine aq ?_;intro h e;exact aN T b e
theorem Vf [Inhabited bN] (w:World) (g par:Nat) (X:Chunk) (T:bK) (d:a8 w (bz g par X T)) {R:Int} {m:Nat} (b:cp g R m T):
 Calls prog 178 [ptr g].toArray w (hy g par X R m (.tuple #[]) T w):=by
 refine bC func178 ntmps178 d ?_;refine ah ?_;refine ao rfl fc rfl (λa c=>fe a g par T (c.has aQ)) ?_;refine fA (k:=0) b bb rfl zW rfl (λa o x=>BY o b.am) (λT b ai f=>?_);refine aJ ?_;refine ao rfl qW rfl (λa c=>dz.oE a _ (by repeat (exact b.md)) _ _ _) ?_;refine ao rfl qW rfl (λa c=>dz.oE a _ (by repeat (first | exact b.md | apply dz.o_)) _ _ _) ?_;refine ao rfl qW rfl (λa c=>dz.oE a _ (by repeat (first | exact b.md | apply dz.o_)) _ _ _) ?_;refine ao rfl qW rfl (λa c=>dz.oE a _ (by repeat (first | exact b.md | apply dz.o_)) _ _ _) ?_;refine aD ?_;refine ge (T:={ T with ca:=I4 T.ca }) rfl wX rfl (λa o=>yB a g par X _ o (b.Ve (Vd b.md))) (λT b=>?_);refine aq ?_;intro h e;exact aN T b e
theorem yC [Inhabited bN] (w:World) (g par:Nat) (X:Chunk) (T:bK) (f:a8 w (bz g par X T)) {R:Int} {m:Nat} (a:cp g R m T) (l:m≤900000000000) (c k:Int):
 Calls prog 174 [ptr g,.int .u8 c,.int .i64 k].toArray w (hy g par X R (m+1) (.tuple #[]) T w):=by
 refine bC func174 ntmps174 f ?_;refine al ?_;refine aj (λh=>?_) (λh=>?_);refine aq ?_;refine ao rfl fc rfl (λb d=>fe b g par T (d.has aQ)) ?_;refine ar ?_;refine fA (k:=1) a bb rfl oA rfl (λb o x=>o9 o a.am (by have:=a.be;omega) _) (λT a ai i=>?_);refine aq ?_;intro j e;exact aN T (a.mono aa) e;refine aq ?_;refine ao rfl fc rfl (λb d=>fe b g par T (d.has aQ)) ?_;refine ar ?_;refine fA (k:=0) a bb rfl NI rfl (λb o x=>Tt o a.am _) (λT a ai i=>?_);refine aq ?_;intro j e;exact aN T (a.mono aa) e
theorem d8.Cm {w w':World} {s:bl} {a:List Bool} {e:Ending} (f:a8 w (aP s)) (d:dT s) (b:a.length=s.st.bs.length) (h:cO.ej s.st.g s.st.bs.length s.st.i a w e w'):d8 0 s (.tuple #[]) w e w':=by
 obtain⟨j,k,rfl,l,ai,m,o⟩:=h;refine⟨{ s with st:=⟨s.st.g,a,j⟩ },⟨rfl,rfl,rfl,⟨d.r,k,by rw[b];exact d.n⟩,⟨λw=>⟨w.bE,w.y,w.x,w.top⟩,rfl,rfl,rfl,ch _⟩⟩,rfl,?_⟩;refine (f.start w rfl).ic (c:=s.st.aG) (c':=cO.eC s.st.g a.length j) (bn.tail (bn.tail (bn.tail (bn.tail (bn.tail (bn.tail bn.head)))))) l ?_ ?_ ?_;rw[b];exact ai
 rw[b];exact m
 rw[b];exact o
theorem tI {w:World} {s:bl} (a:a8 w (aP s)):s.st.aG.cm.Nodup:=by
 have h:=a.2
 rw[show aA (aP s)=aA [s.an,s.ap.an,aU (cd s.ap.r),s.ap.s.au,s.ap.s.cj,s.ap.be.au]++(s.st.aG.cm++[]) from by simp[aA],fR] at h
 exact (fS.1 h).2.1
theorem Cn {w:World} {s:bl} (a:a8 w (aP s)):s.st.aG.pred w:=a.1 _ av
theorem I5 [Inhabited bN] {w:World} {s:bl} (a:a8 w (aP s)) (b:dW s) (x:Int) (c: -9223372036854775808≤x∧x≤9223372036854775807):Calls prog 198 [ptr s.st.g,.int .i64 x].toArray w (d8 0 s (.tuple #[]) w):=
 (cO.GR w s.st.g s.st.bs s.st.i b.g.st (Cn a) (tI a) x c).mono (λ_ _ h=>d8.Cm a b.g (cO.mJ _ _ _) h)
theorem Vg [Inhabited bN] {w:World} {s:bl} (a:a8 w (aP s)) (b:dW s) (x:Int) (c: -9223372036854775808≤x∧x≤9223372036854775807):Calls prog 197 [ptr s.st.g,.int .i64 x].toArray w (d8 0 s (.tuple #[]) w):=
 (cO.GS w s.st.g s.st.bs s.st.i b.g.st (Cn a) (tI a) x c).mono (λ_ _ h=>d8.Cm a b.g (cO.mJ _ _ _) h)
theorem I6 [Inhabited bN] {w:World} {s:bl} (b:a8 w (aP s)) (a:dW s):Calls prog 265 [ptr s.st.g].toArray w (d8 0 s (.tuple #[]) w):=
 (cO.AI w s.st.g s.st.bs s.st.i a.g.st (Cn b) (tI b) (by have:=a.g.n;have:=a.ok.nums.2.1;omega)).mono (λ_ _ h=>d8.Cm b a.g hd h)
theorem I7 [Inhabited bN] (w:World) (s:bl) (f:a8 w (aP s)) (e:dW s):Calls prog 330 [ptr s.g].toArray w (d8 0 s (.tuple #[]) w):=by
 refine bC func330 ntmps330 f ?_;refine ah ?_;refine ao rfl wV rfl (λb a=>x3 b s (a.has aQ)) ?_;refine al ?_;refine cE (λb a=>I6 a e) (λs1 j=>?_);refine aL ?_;refine b1 (ι:=Nat × bl) (λt=>[(2,ptr s.st.g),(3,.int .i64 (t.1 :Int))]) (λt=>af w (aA (aP s)) (aP t.2)) (λt=>t.1≤2000∧gi 0 s t.2) (λt=>2008 - t.1) ?_ ?_;exact λw' k=>⟨(0,s1),⟨bP _,j⟩,(iJ rfl rfl),k⟩
 rintro⟨i,bu⟩ ⟨hi,c⟩;dsimp only at hi c ⊢
 have d:=c.ok e
 have q:=d.g.n
 have a:=d.ok.nums.2.1
 have l:=c.st
 rw[←l];refine ax ?_;refine ao rfl E7 rfl (λb a=>cO.GK b bu.st.g bu.st.bs.length bu.st.i (cO.gD.of (a.has eX) d.g.st.len)) ?_;refine ah ?_;refine aj (λm=>?_) (λm=>?_);refine aD ?_;refine aY (l0:=aP bu) ae rfl zR rfl (λb a=>I5 (a.bo ae) d i aa) (λz o=>?_);refine aL ?_;exact bg (i+8,z) ⟨aa,c.trans o⟩ bm bR (λ_ h=>h);refine ax ?_;intro r p;exact aN bu c p
theorem Vh [Inhabited bN] (w:World) (g par:Nat) (X:Chunk) (T:bK) (G:a8 w (bz g par X T)) (P:vG X) {R:Int} {m:Nat} (H:cp g R m T) (Q:m≤900000000000):
 Calls prog 235 [ptr g].toArray w (hy g par X R (m+2) (.tuple #[]) T w):=by
 refine bC func235 ntmps235 G ?_;refine al ?_;refine cy (vs:=[ptr T.cc,ptr T.dS]) DV rfl rfl rfl (λS e j u I=>e.k5 (sz:=2) (xs:=o7 par T) aQ rfl j u I) ?_;refine aS ?_;refine b1 (ι:=Nat × bK) (λt=>[(0,ptr g),(7,.agg [ptr T.cc,ptr T.dS].toArray),(8,.int .i64 (t.1 :Int))]) (λt=>af w (aA (bz g par X T)) (bz g par X t.2)) (λt=>t.1≤2∧cp g R (m+t.1) t.2∧kQ T t.2) (λt=>2 - t.1) ?_ ?_;exact λw' J=>⟨(0,T),⟨bP _,H,rfl,rfl,rfl⟩,(ef rfl rfl rfl),J⟩
 rintro⟨i,bu⟩ ⟨hi,a,c⟩;dsimp only at hi a c ⊢
 have K:i<2→ ∃q,[ptr T.cc,ptr T.dS][i]? = some (ptr q)∧(q=bu.am.g∨q=bu.bk.g):=λf=>by
  rw[c.am,c.bk];rcases I3 T with ⟨y,z⟩ | ⟨y,z⟩ <;> (rcases (by omega:i=0∨i=1) with rfl | rfl) <;> simp[y,z]
 refine al ?_;refine aj (λL=>?_) (λL=>?_);obtain⟨q,A,M⟩:=K aa;rcases M with ai | ai
 refine al ?_;refine lP (q:=i) underlying75 qS rfl rfl rfl aa aa A ?_;refine al ?_;refine fA (k:=0) a ai rfl zW rfl (λb o x=>BY o a.am) (λbu a ai l=>?_);refine ax ?_;refine fA (k:=1) a ai rfl oA rfl (λb o x=>o9 o a.am (by have:=a.be;omega) _) (λbu a ai n=>?_);refine ax ?_;refine fA (k:=0) a ai rfl pL rfl (λb o x=>rr o a.am _ _) (λbu a ai p=>?_);refine aS ?_;refine fA (k:=0) a ai rfl E2 rfl (λb o x=>I7 b _ o a.am) (λbu a ai r=>?_);have c:=(((c.trans l).trans n).trans p).trans r
 refine aD ?_;exact bg (i+1,bu) ⟨aa,a.mono aa,c⟩ bm bR (λ_ h=>h);refine al ?_;refine lP (q:=i) underlying75 qS rfl rfl rfl aa aa A ?_;refine al ?_;refine vI (k:=0) a ai rfl zW rfl (λb o x=>BY o a.bk) (λbu a ai l=>?_);refine ax ?_;refine vI (k:=1) a ai rfl oA rfl (λb o x=>o9 o a.bk (by have:=a.be;omega) _) (λbu a ai n=>?_);refine ax ?_;refine vI (k:=0) a ai rfl pL rfl (λb o x=>rr o a.bk _ _) (λbu a ai p=>?_);refine aS ?_;refine vI (k:=0) a ai rfl E2 rfl (λb o x=>I7 b _ o a.bk) (λbu a ai r=>?_);have c:=(((c.trans l).trans n).trans p).trans r
 refine aD ?_;exact bg (i+1,bu) ⟨aa,a.mono aa,c⟩ bm bR (λ_ h=>h);obtain⟨am,bk,use,ca,cl,bL,buf,aG⟩:=bu;have N:=a.mono (k:=m+2) aa
 obtain⟨e,f,B,C,U,D,E,F,W⟩:=N;cases use with
 | false=>
  refine aR ?_;refine ao rfl zE rfl (λb d=>dz.vb b) ?_;refine bI ?_;refine aY (l0:=bz g par X ⟨am,bk,false,dz.pa,[],bL,buf,aG⟩) ae rfl wX rfl (λb d=>yB b g par X _ (d.bo ae) (R:=R) (m:=m+2) ⟨e,f,B,C,by simp,D,E,F,show dz.pa<4294967296 by decide⟩) (λV s=>?_);refine aq ?_;intro O v;exact aN V s v
 | true=>
  refine aR ?_;refine ao rfl zE rfl (λb d=>dz.vb b) ?_;refine bI ?_;refine aY (l0:=bz g par X ⟨bk,am,false,dz.pa,[],bL,buf,aG⟩) ae rfl wX rfl (λb d=>yB b g par X _ (d.bo ae) (R:=R) (m:=m+2) ⟨f,e,B,C,by simp,by dsimp only at D ⊢;omega,E,F,show dz.pa<4294967296 by decide⟩) (λV s=>?_);refine aq ?_;intro O v;exact aN V s v
theorem tJ (n:Nat) (h:n≤1001): (Lib.decDigits n).length≤21:=cW.Ib aa
theorem Vi [Inhabited bN] (p:Bool) (y x:Int): (cW.yk p (cW.eU y) (cW.eU x)).length≤1000:=by
 have a:=tJ (cW.eU y+1) (by have:=cW.l9 y;omega)
 have b:=tJ (cW.eU x+1) (by have:=cW.l9 x;omega)
 unfold cW.yk;cases p <;> simp <;> omega
theorem I8 [Inhabited bN] (w:World) (g par:Nat) (X:Chunk) (T:bK) (h:a8 w (bz g par X T)) (e:vG X) {R:Int} {m:Nat} (c:cp g R m T) (q:m≤900000000000) (p:Bool):
 Calls prog 173 [ptr g,.bool p].toArray w (hy g par X R (m+1000) (.tuple #[]) T w):=by
 have f:=Vi p
 have r:0≤T.am.y∧T.am.y≤1000:=by have i:=c.am.ok.y;have j:=s8 c.am.ok;simp only[bl.abs,bd.rows] at *;omega
 have s:0≤T.am.top∧T.am.top≤1000:=by have i:=c.am.ok.top;have j:=s8 c.am.ok;simp only[bl.abs,bd.rows] at *;omega
 refine bC func173 ntmps173 h ?_;refine ah ?_;refine ao rfl fc rfl (λa b=>fe a g par T (b.has aQ)) ?_;refine ao rfl ja rfl (λa b=>jp a T.am (b.eg (l:=aP T.am) bH Has.head)) ?_;refine ar ?_;intro t u v;refine eW zy rfl rfl (by rw[BM];exact bn.head) rfl (aH.cons rfl (aH.cons rfl (aH.cons rfl (aH.cons rfl (aH.cons rfl (aH.cons rfl (aH.cons rfl (aH.cons rfl (aH.cons rfl (gb rfl rfl rfl rfl rfl rfl rfl rfl rfl rfl)))))))))) (by exact dY rfl) ?_;refine e4 ?_;refine b6 rfl (λk=>?_) (λk=>?_);refine bB ?_;refine ao rfl qY rfl (λa b=>rA a g par T (b.has bH) (b.eg (l:=aP T.am) cu Has.head) (b.eg (l:=aP T.am) cu (Has.tail Has.head)) c.am.ok.nums.2.1) ?_;refine ar ?_;refine ao rfl EL rfl (λa b=>cW.Ii a (e a (b.has eX)).it _ _ _) ?_;refine gZ rfl ni rfl (λa o=>nZ a g par X T o c _ aa (by apply f)) (λT c=>?_);refine aq ?_;intro n d;exact aN T (c.mono aa) d;refine al ?_;refine ao rfl qY rfl (λa b=>rA a g par T (b.has bH) (b.eg (l:=aP T.am) cu Has.head) (b.eg (l:=aP T.am) cu (Has.tail Has.head)) c.am.ok.nums.2.1) ?_;refine ar ?_;refine ao rfl EL rfl (λa b=>cW.Ii a (e a (b.has eX)).it _ _ _) ?_;refine gZ rfl ni rfl (λa o=>nZ a g par X T o c _ aa (by apply f)) (λT c=>?_);refine aq ?_;intro n d;exact aN T (c.mono aa) d
theorem Vj [Inhabited bN] (w:World) (g par:Nat) (X:Chunk) (T:bK) (y:a8 w (bz g par X T)) (q:vG X) {R:Int} {m:Nat} (a:cp g R m T) (I:m≤900000000000) (c:Int):
 Calls prog 168 [ptr g,ptr T.am.g,.int .u8 c].toArray w (hy g par X R (m+1000) (.tuple #[]) T w):=by
 refine bC func168 ntmps168 y ?_;refine bB ?_;refine aj (λz=>?_) (λz=>?_);refine aq ?_;refine fA (k:=0) a bb rfl so rfl (λb o x=>tu o a.am) (λT a ai h=>?_);refine ah ?_;intro f d;exact aN T (a.mono aa) d;refine al ?_;refine aj (λaK=>?_) (λaK=>?_);refine aq ?_;refine ge rfl lO rfl (λb o=>mf b g par X T o a) (λT a=>?_);refine ah ?_;intro f d;exact aN T (a.mono aa) d;refine al ?_;refine aj (λA=>?_) (λA=>?_);refine aq ?_;refine fA (k:=2) a bb rfl uB rfl (λb o x=>H4 o a.am (by have:=a.be;omega)) (λT a ai h=>?_);refine ah ?_;intro f d;exact aN T (a.mono aa) d;refine al ?_;refine aj (λB=>?_) (λB=>?_);refine ah ?_;refine fA (k:=2) a bb rfl uB rfl (λb o x=>H4 o a.am (by have:=a.be;omega)) (λT a ai h=>?_);refine aS ?_;refine fA (k:=0) a ai rfl qX rfl (λb o x=>tt o a.am) (λT a ai h=>?_);refine ah ?_;intro f d;exact aN T (a.mono aa) d;refine al ?_;refine aj (λC=>?_) (λC=>?_);refine aq ?_;refine fA (k:=2) a bb rfl NE rfl (λb o x=>TB o a.am (by have:=a.be;omega)) (λT a ai h=>?_);refine ah ?_;intro f d;exact aN T (a.mono aa) d;refine al ?_;refine aj (λD=>?_) (λD=>?_);refine aq ?_;refine ao rfl wV rfl (λb e=>x3 b T.am (e.eg (l:=aP T.am) bH Has.head)) ?_;refine ar ?_;refine ao rfl qY rfl (λb e=>rA b g par T (e.has aQ) (e.eg (l:=aP T.am) bH Has.head) (e.eg (l:=aP T.am) bH (Has.tail Has.head)) a.am.ok.nums.2.1) ?_;refine Vc (k:=0) a rfl zR rfl (λb o x=>I5 o a.am _ (by have:=a.am.ok.nums;omega)) (λT a h=>?_);refine ah ?_;intro f d;exact aN T (a.mono aa) d;refine al ?_;refine aj (λE=>?_) (λE=>?_);refine aq ?_;refine ao rfl EJ rfl (λb e=>cW.Ij b (q b (e.has kv)).it) ?_;refine ge rfl ni rfl (λb o=>nZ b g par X T o a _ aa aZ) (λT a=>?_);refine ah ?_;intro f d;exact aN T (a.mono aa) d;refine al ?_;refine aj (λF=>?_) (λF=>?_);refine aq ?_;refine ge rfl NF rfl (λb o=>Vh b g par X T o q a aa) (λT a=>?_);refine ah ?_;intro f d;exact aN T (a.mono aa) d;refine aD ?_;refine aj (λi=>?_) (λi=>?_);have r:=i
 refine aq ?_;refine eA rfl ((b5 r)) ?_;refine aS ?_;refine ge rfl pK rfl (λb o=>qn b g par X T o a _ _ _) (λT a=>?_);refine ah ?_;intro f d;exact aN T (a.mono aa) d;have r:=i
 refine ax ?_;refine aj (λG=>?_) (λG=>?_);refine aS ?_;refine ge rfl pK rfl (λb o=>qn b g par X T o a _ _ _) (λT a=>?_);refine ah ?_;intro f d;exact aN T (a.mono aa) d;refine aD ?_;refine aj (λj=>?_) (λj=>?_);have s:=j
 refine aq ?_;refine eA rfl ((b5 s)) ?_;refine ah ?_;refine ao rfl ja rfl (λb e=>jp b T.am (e.eg (l:=aP T.am) bH Has.head)) ?_;refine j9 (t:=91) (off:=7) ab lN rfl rfl rfl ?_;refine ar ?_;refine ao rfl wW rfl (λb e=>x2 b ⟨_,_,_,_,_,_⟩ _) ?_;refine fA (k:=0) a bb rfl nh rfl (λb o x=>nT o a.am ⟨_,_,_,_,_,_⟩) (λT a ai h=>?_);refine ah ?_;intro f d;exact aN T (a.mono aa) d;have s:=j
 refine al ?_;refine aj (λn=>?_) (λn=>?_);have u:=n
 refine aq ?_;refine eA rfl ((b5 u)) ?_;refine ah ?_;refine ao rfl ja rfl (λb e=>jp b T.am (e.eg (l:=aP T.am) bH Has.head)) ?_;refine j9 (t:=91) (off:=7) ab lN rfl rfl rfl ?_;refine ar ?_;refine ao rfl wW rfl (λb e=>x2 b ⟨_,_,_,_,_,_⟩ _) ?_;refine fA (k:=0) a bb rfl nh rfl (λb o x=>nT o a.am ⟨_,_,_,_,_,_⟩) (λT a ai h=>?_);refine ah ?_;intro f d;exact aN T (a.mono aa) d;have u:=n
 refine al ?_;refine aj (λp=>?_) (λp=>?_);have v:=p
 refine aq ?_;refine eA rfl ((b5 v)) ?_;refine ah ?_;refine ao rfl ja rfl (λb e=>jp b T.am (e.eg (l:=aP T.am) bH Has.head)) ?_;refine j9 (t:=91) (off:=7) ab lN rfl rfl rfl ?_;refine ar ?_;refine ao rfl wW rfl (λb e=>x2 b ⟨_,_,_,_,_,_⟩ _) ?_;refine fA (k:=0) a bb rfl nh rfl (λb o x=>nT o a.am ⟨_,_,_,_,_,_⟩) (λT a ai h=>?_);refine ah ?_;intro f d;exact aN T (a.mono aa) d;have v:=p
 refine ax ?_;refine aj (λH=>?_) (λH=>?_);refine ah ?_;refine ao rfl ja rfl (λb e=>jp b T.am (e.eg (l:=aP T.am) bH Has.head)) ?_;refine j9 (t:=91) (off:=7) ab lN rfl rfl rfl ?_;refine ar ?_;refine ao rfl wW rfl (λb e=>x2 b ⟨_,_,_,_,_,_⟩ _) ?_;refine fA (k:=0) a bb rfl nh rfl (λb o x=>nT o a.am ⟨_,_,_,_,_,_⟩) (λT a ai h=>?_);refine ah ?_;intro f d;exact aN T (a.mono aa) d;refine ah ?_;intro f d;exact aN T (a.mono aa) d
section
section
variable {P:Program} {n:Nat} {ops:Array Oper} {Q:cq} {rest:List Oper} {l:Fr} {d:Nat} {ty:TypeId} {pos:String} {a6:Array Edge}
variable {b:World} {S:List Nat} {args:List Operand} {da:Array TypeId} {f:FuncId} {vs:List Value} {v:Value} {g par k m p:Nat} {R:Int} {T:bK} {X:Chunk}
theorem tK (e:cp g R m T) (ak:Nat.blt d n=true) (i:ad P f) (j:cM l args=some vs)
 (o: ∀w,af b S (bz g par X T) w→Calls P f vs.toArray w (d8 k T.am v w))
 (h: ∀bu:bK,cp g R (m+k) bu→kQ T bu→az P n ops Q rest ((d,v)::l) (af b S (bz g par X bu))):
 az P n ops Q (⟨some d,.call ⟨.value (.func f),args.toArray,da⟩,ty,pos,a6,none⟩::rest) l (af b S (bz g par X T)):=by
 refine kH (l0:=aP T.am) (l':=aP) (cs1:=λz=>[eE g par T,aU (aP z),aU (aP T.bk),T.buf.au,T.aG.au,X]) (λz=>bn.tail bn.head) ak i j o (λz a=>?_);have c:=h { T with am:=z } (e.rp a) ⟨rfl,a.g,rfl⟩
 simp only[bz] at c
 rw[rq a.g] at c
 exact c
theorem apart {w:World} (h:af b S (bz g par X T) w) {x:Nat} (c:x∈aA (aP T.bk)):x∉aA (aP T.am):=λd=>by
 have a:=h.nodup
 rw[show aA (bz g par X T)=(eE g par T).cm++(aA (aP T.am)++(aA (aP T.bk)++aA [T.buf.au,T.aG.au,X])) from by simp[aA,aU]] at a
 exact (fS.1 (fS.1 a).2.1).2.2 x d x (oc _ c) rfl
end
theorem tL [Inhabited bN] {w b:World} {S:List Nat} {g par:Nat} {X:Chunk} {T:bK} {R:Int} {m q:Nat} (a:cp g R m T) (c:q=T.bk.g) (h:af b S (bz g par X T) w):Calls prog 402 [ptr T.am.g,ptr q].toArray w (d8 0 T.am (.tuple #[]) w):=by
 subst c;exact Te w T.am T.bk (h.kG (Has.tail Has.head)) a.am.g a.am.ok.bE (h.eg (l:=aP T.bk) cu Has.head) (h.eg (l:=aP T.bk) cu (Has.tail Has.head)) a.bk.ok.nums.2.1 (apart h (by simp[aA,bl.an,aE])) (apart h (by simp[aA,bl.an,aE]))
theorem cp.swap {g:Nat} {R:Int} {m:Nat} {am bk:bl} {use:Bool} {ca:Nat} {cl:List UInt8} {bL:Option Addr} {buf:is} {aG:nR} (h:cp g R m ⟨am,bk,use,ca,cl,bL,buf,aG⟩):cp g R m ⟨bk,am,!use,ca,cl,bL,buf,aG⟩:=by
 refine⟨h.bk,h.am,?_,h.bL,h.cl,?_,h.buf,h.aG,h.md⟩
 ·have:=h.room
  cases use <;> exact this
 ·have:=h.be
  dsimp only at this ⊢
  omega
theorem Co [Inhabited bN] (w:World) (g par:Nat) (X:Chunk) (T:bK) (s:a8 w (bz g par X T)) {R:Int} {m:Nat} (a:cp g R m T) (J:m≤900000000000) (t u:Bool):
 Calls prog 340 [ptr g,.bool t,.bool u].toArray w (hy g par X R (m+1) (.tuple #[]) T w):=by
 obtain⟨am,bk,use,ca,cl,bL,buf,aG⟩:=T;refine bC func340 ntmps340 s ?_;cases use with
 | false=>
  refine aJ ?_;refine zn underlying4 rfl rfl rfl ?_;refine aq ?_;refine aj (λy=>?_) (λy=>?_)
  ·skip
   refine ah ?_;intro e c;exact aO.bQ ⟨am,bk,_,ca,cl,bL,buf,aG⟩ (a.mono aa) rfl (c.aw ae)
  ·skip
   refine ax ?_;refine ao rfl fc rfl (λb d=>fe b g par _ (d.has aQ)) ?_;refine aL ?_;refine aX 17 rfl (λaK=>?_) (λaK=>?_)
   ·skip
    refine ax ?_;refine b6 rfl (λz=>?_) (λz=>?_)
    ·skip
     refine aq ?_;refine fA (k:=0) a rfl rfl so rfl (λb o x=>tu o a.am) (λ⟨am,bk,use,ca,cl,bL,buf,aG⟩ a ai f=>?_);obtain rfl:use=false:=f.use
     refine aL ?_;refine a7 (v:= .int .i64 0) bM rfl rfl (λi h=>h.ep aQ rfl) ?_;refine aS ?_;have a:=a.swap
     refine hg (H':=af w _ (bz g par X ⟨bk,am,true,ca,cl,bL,buf,aG⟩)) ?_ (Sub.refl _) (λ_ c=>c.aw ae);refine ax ?_;refine ao rfl fc rfl (λb d=>fe b g par _ (d.has aQ)) ?_;refine ar ?_;refine tK (k:=0) a rfl sv rfl (λb d=>tL a ai d) (λT a f=>?_);refine aJ ?_;refine b6 rfl (λj=>?_) (λj=>?_)
     ·simp only[b3] at j
      refine ah ?_;intro e c;exact aN T (a.mono aa) c
     ·simp only[b3] at j
      refine aD ?_;refine b6 rfl (λA=>?_) (λA=>?_)
      ·skip
       refine aq ?_;refine ao rfl fc rfl (λb d=>fe b g par _ (d.has aQ)) ?_;refine fA (k:=1) a bb rfl oA rfl (λb o x=>o9 o a.am (by have:=a.be;omega) _) (λT a ai f=>?_);refine aq ?_;intro e c;exact aN T (a.mono aa) c
      ·skip
       refine aq ?_;refine ge rfl lO rfl (λb o=>mf b g par X T o a) (λT a=>?_);refine aq ?_;intro e c;exact aN T (a.mono aa) c
    ·skip
     refine aL ?_;refine a7 (v:= .int .i64 0) bM rfl rfl (λi h=>h.ep aQ rfl) ?_;refine aS ?_;have a:=a.swap
     refine hg (H':=af w _ (bz g par X ⟨bk,am,true,ca,cl,bL,buf,aG⟩)) ?_ (Sub.refl _) (λ_ c=>c.aw ae);refine ax ?_;refine ao rfl fc rfl (λb d=>fe b g par _ (d.has aQ)) ?_;refine ar ?_;refine tK (k:=0) a rfl sv rfl (λb d=>tL a bb d) (λT a f=>?_);refine aJ ?_;refine b6 rfl (λl=>?_) (λl=>?_)
     ·simp only[b3] at l
      refine ah ?_;intro e c;exact aN T (a.mono aa) c
     ·simp only[b3] at l
      refine aD ?_;refine b6 rfl (λB=>?_) (λB=>?_)
      ·skip
       refine aq ?_;refine ao rfl fc rfl (λb d=>fe b g par _ (d.has aQ)) ?_;refine fA (k:=1) a bb rfl oA rfl (λb o x=>o9 o a.am (by have:=a.be;omega) _) (λT a ai f=>?_);refine aq ?_;intro e c;exact aN T (a.mono aa) c
      ·skip
       refine aq ?_;refine ge rfl lO rfl (λb o=>mf b g par X T o a) (λT a=>?_);refine aq ?_;intro e c;exact aN T (a.mono aa) c
   ·skip
    refine bI ?_;refine a7 (v:= .int .i64 0) bM rfl rfl (λi h=>h.ep aQ rfl) ?_;refine aS ?_;have a:=a.swap
    refine hg (H':=af w _ (bz g par X ⟨bk,am,true,ca,cl,bL,buf,aG⟩)) ?_ (Sub.refl _) (λ_ c=>c.aw ae);refine ax ?_;refine ao rfl fc rfl (λb d=>fe b g par _ (d.has aQ)) ?_;refine ar ?_;refine tK (k:=0) a rfl sv rfl (λb d=>tL a bb d) (λT a f=>?_);refine aJ ?_;refine b6 rfl (λn=>?_) (λn=>?_)
    ·simp only[b3] at n
     refine ah ?_;intro e c;exact aN T (a.mono aa) c
    ·simp only[b3] at n
     refine aD ?_;refine b6 rfl (λC=>?_) (λC=>?_)
     ·skip
      refine aq ?_;refine ao rfl fc rfl (λb d=>fe b g par _ (d.has aQ)) ?_;refine fA (k:=1) a bb rfl oA rfl (λb o x=>o9 o a.am (by have:=a.be;omega) _) (λT a ai f=>?_);refine aq ?_;intro e c;exact aN T (a.mono aa) c
     ·skip
      refine aq ?_;refine ge rfl lO rfl (λb o=>mf b g par X T o a) (λT a=>?_);refine aq ?_;intro e c;exact aN T (a.mono aa) c
 | true=>
  refine aJ ?_;refine zn underlying4 rfl rfl rfl ?_;refine aq ?_;refine aj (λD=>?_) (λD=>?_)
  ·skip
   refine ah ?_;intro e c;exact aO.bQ ⟨am,bk,_,ca,cl,bL,buf,aG⟩ (a.mono aa) rfl (c.aw ae)
  ·skip
   refine ax ?_;refine ao rfl fc rfl (λb d=>fe b g par _ (d.has aQ)) ?_;refine aL ?_;refine aX 17 rfl (λE=>?_) (λE=>?_)
   ·skip
    refine ax ?_;refine b6 rfl (λF=>?_) (λF=>?_)
    ·skip
     refine aq ?_;refine fA (k:=0) a rfl rfl so rfl (λb o x=>tu o a.am) (λ⟨am,bk,use,ca,cl,bL,buf,aG⟩ a ai f=>?_);obtain rfl:use=true:=f.use
     refine aL ?_;refine a7 (v:= .int .i64 1) bM rfl rfl (λi h=>h.ep aQ rfl) ?_;refine aS ?_;have a:=a.swap
     refine hg (H':=af w _ (bz g par X ⟨bk,am,false,ca,cl,bL,buf,aG⟩)) ?_ (Sub.refl _) (λ_ c=>c.aw ae);refine ax ?_;refine ao rfl fc rfl (λb d=>fe b g par _ (d.has aQ)) ?_;refine ar ?_;refine tK (k:=0) a rfl sv rfl (λb d=>tL a ai d) (λT a f=>?_);refine aJ ?_;refine b6 rfl (λp=>?_) (λp=>?_)
     ·simp only[b3] at p
      refine ah ?_;intro e c;exact aN T (a.mono aa) c
     ·simp only[b3] at p
      refine aD ?_;refine b6 rfl (λG=>?_) (λG=>?_)
      ·skip
       refine aq ?_;refine ao rfl fc rfl (λb d=>fe b g par _ (d.has aQ)) ?_;refine fA (k:=1) a bb rfl oA rfl (λb o x=>o9 o a.am (by have:=a.be;omega) _) (λT a ai f=>?_);refine aq ?_;intro e c;exact aN T (a.mono aa) c
      ·skip
       refine aq ?_;refine ge rfl lO rfl (λb o=>mf b g par X T o a) (λT a=>?_);refine aq ?_;intro e c;exact aN T (a.mono aa) c
    ·skip
     refine aL ?_;refine a7 (v:= .int .i64 1) bM rfl rfl (λi h=>h.ep aQ rfl) ?_;refine aS ?_;have a:=a.swap
     refine hg (H':=af w _ (bz g par X ⟨bk,am,false,ca,cl,bL,buf,aG⟩)) ?_ (Sub.refl _) (λ_ c=>c.aw ae);refine ax ?_;refine ao rfl fc rfl (λb d=>fe b g par _ (d.has aQ)) ?_;refine ar ?_;refine tK (k:=0) a rfl sv rfl (λb d=>tL a bb d) (λT a f=>?_);refine aJ ?_;refine b6 rfl (λq=>?_) (λq=>?_)
     ·simp only[b3] at q
      refine ah ?_;intro e c;exact aN T (a.mono aa) c
     ·simp only[b3] at q
      refine aD ?_;refine b6 rfl (λH=>?_) (λH=>?_)
      ·skip
       refine aq ?_;refine ao rfl fc rfl (λb d=>fe b g par _ (d.has aQ)) ?_;refine fA (k:=1) a bb rfl oA rfl (λb o x=>o9 o a.am (by have:=a.be;omega) _) (λT a ai f=>?_);refine aq ?_;intro e c;exact aN T (a.mono aa) c
      ·skip
       refine aq ?_;refine ge rfl lO rfl (λb o=>mf b g par X T o a) (λT a=>?_);refine aq ?_;intro e c;exact aN T (a.mono aa) c
   ·skip
    refine bI ?_;refine a7 (v:= .int .i64 1) bM rfl rfl (λi h=>h.ep aQ rfl) ?_;refine aS ?_;have a:=a.swap
    refine hg (H':=af w _ (bz g par X ⟨bk,am,false,ca,cl,bL,buf,aG⟩)) ?_ (Sub.refl _) (λ_ c=>c.aw ae);refine ax ?_;refine ao rfl fc rfl (λb d=>fe b g par _ (d.has aQ)) ?_;refine ar ?_;refine tK (k:=0) a rfl sv rfl (λb d=>tL a bb d) (λT a f=>?_);refine aJ ?_;refine b6 rfl (λr=>?_) (λr=>?_)
    ·simp only[b3] at r
     refine ah ?_;intro e c;exact aN T (a.mono aa) c
    ·simp only[b3] at r
     refine aD ?_;refine b6 rfl (λI=>?_) (λI=>?_)
     ·skip
      refine aq ?_;refine ao rfl fc rfl (λb d=>fe b g par _ (d.has aQ)) ?_;refine fA (k:=1) a bb rfl oA rfl (λb o x=>o9 o a.am (by have:=a.be;omega) _) (λT a ai f=>?_);refine aq ?_;intro e c;exact aN T (a.mono aa) c
     ·skip
      refine aq ?_;refine ge rfl lO rfl (λb o=>mf b g par X T o a) (λT a=>?_);refine aq ?_;intro e c;exact aN T (a.mono aa) c
theorem Vk [Inhabited bN] (w:World) (g par:Nat) (X:Chunk) (T:bK) (C:a8 w (bz g par X T)) {R:Int} {m:Nat} (a:cp g R m T) (U:m≤900000000000) (p:Bool) (n:Int) (v:Bool):
 Calls prog 245 [ptr g,.bool p,.int .i64 n,.bool v].toArray w (hy g par X R (m+1) (.tuple #[]) T w):=by
 refine bC func245 ntmps245 C ?_;refine ax ?_;refine aX 11 rfl (λD=>?_) (λD=>?_);refine al ?_;refine aX 14 rfl (λE=>?_) (λE=>?_);refine kw ?_;refine b1 (ι:=Nat × bK) (λt=>[(0,ptr g),(2,.int .i64 n),(3,.bool v),(23,.agg [.int .i64 47,.int .i64 1047,.int .i64 1049].toArray),(24,.int .i64 (t.1 :Int))]) (λt=>af w (aA (bz g par X T)) (bz g par X t.2)) (λt=>t.1≤3∧cp g R m t.2) (λt=>3 - t.1) ?_ ?_;exact λw' f=>⟨(0,T),⟨bP _,a⟩,(ea rfl rfl rfl rfl rfl),f⟩
 rintro⟨i,T⟩ ⟨hi,a⟩;dsimp only at hi a ⊢
 have j:i<3→ ∃q:Int,[Value.int .i64 47,.int .i64 1047,.int .i64 1049][i]? = some (.int .i64 q):=λB=>by
  rcases (by omega:i=0∨i=1∨i=2) with rfl | rfl | rfl <;> exact⟨_,rfl⟩
 refine al ?_;refine aj (λl=>?_) (λl=>?_);obtain⟨q,r⟩:=j aa;refine al ?_;refine lP (q:=i) underlying381 bM rfl rfl rfl aa aa r ?_;refine aD ?_;refine ge rfl pK rfl (λb o=>qn b g par X T o a _ _ _) (λT a=>?_);refine aD ?_;exact bg (i+1,T) ⟨aa,a⟩ bm bR (λ_ h=>h);refine bp ?_;refine ge rfl z6 rfl (λb o=>Co b g par X T o a aa _ _) (λT a=>?_);refine ax ?_;intro d c;exact aN T (a.mono aa) c;refine aL ?_;refine aX 18 rfl (λF=>?_) (λF=>?_);refine dx ?_;refine b1 (ι:=Nat × bK) (λt=>[(0,ptr g),(2,.int .i64 n),(3,.bool v),(23,.agg [.int .i64 47,.int .i64 1047,.int .i64 1049].toArray),(24,.int .i64 (t.1 :Int))]) (λt=>af w (aA (bz g par X T)) (bz g par X t.2)) (λt=>t.1≤3∧cp g R m t.2) (λt=>3 - t.1) ?_ ?_;exact λw' f=>⟨(0,T),⟨bP _,a⟩,(ea rfl rfl rfl rfl rfl),f⟩
 rintro⟨i,T⟩ ⟨hi,a⟩;dsimp only at hi a ⊢
 have j:i<3→ ∃q:Int,[Value.int .i64 47,.int .i64 1047,.int .i64 1049][i]? = some (.int .i64 q):=λB=>by
  rcases (by omega:i=0∨i=1∨i=2) with rfl | rfl | rfl <;> exact⟨_,rfl⟩
 refine al ?_;refine aj (λl=>?_) (λl=>?_);obtain⟨q,r⟩:=j aa;refine al ?_;refine lP (q:=i) underlying381 bM rfl rfl rfl aa aa r ?_;refine aD ?_;refine ge rfl pK rfl (λb o=>qn b g par X T o a _ _ _) (λT a=>?_);refine aD ?_;exact bg (i+1,T) ⟨aa,a⟩ bm bR (λ_ h=>h);refine bp ?_;refine ge rfl z6 rfl (λb o=>Co b g par X T o a aa _ _) (λT a=>?_);refine ax ?_;intro d c;exact aN T (a.mono aa) c;refine aJ ?_;refine aj (λG=>?_) (λG=>?_);refine aL ?_;refine b1 (ι:=Nat × bK) (λt=>[(0,ptr g),(2,.int .i64 n),(3,.bool v),(23,.agg [.int .i64 47,.int .i64 1047,.int .i64 1049].toArray),(24,.int .i64 (t.1 :Int))]) (λt=>af w (aA (bz g par X T)) (bz g par X t.2)) (λt=>t.1≤3∧cp g R m t.2) (λt=>3 - t.1) ?_ ?_;exact λw' f=>⟨(0,T),⟨bP _,a⟩,(ea rfl rfl rfl rfl rfl),f⟩
 rintro⟨i,T⟩ ⟨hi,a⟩;dsimp only at hi a ⊢
 have j:i<3→ ∃q:Int,[Value.int .i64 47,.int .i64 1047,.int .i64 1049][i]? = some (.int .i64 q):=λB=>by
  rcases (by omega:i=0∨i=1∨i=2) with rfl | rfl | rfl <;> exact⟨_,rfl⟩
 refine al ?_;refine aj (λl=>?_) (λl=>?_);obtain⟨q,r⟩:=j aa;refine al ?_;refine lP (q:=i) underlying381 bM rfl rfl rfl aa aa r ?_;refine aD ?_;refine ge rfl pK rfl (λb o=>qn b g par X T o a _ _ _) (λT a=>?_);refine aD ?_;exact bg (i+1,T) ⟨aa,a⟩ bm bR (λ_ h=>h);refine bp ?_;refine ge rfl z6 rfl (λb o=>Co b g par X T o a aa _ _) (λT a=>?_);refine ax ?_;intro d c;exact aN T (a.mono aa) c;refine aL ?_;refine ge rfl pK rfl (λb o=>qn b g par X T o a _ _ _) (λT a=>?_);refine aR ?_;refine b6 rfl (λs=>?_) (λs=>?_);have H:=s
 simp only[b3] at s
 refine ah ?_;intro d c;exact aN T (a.mono aa) c;have H:=s
 simp only[b3] at s
 refine aD ?_;refine aj (λaK=>?_) (λaK=>?_);refine aq ?_;refine ao rfl fc rfl (λb e=>fe b g par T (e.has aQ)) ?_;refine fA (k:=0) a bb rfl pL rfl (λb o x=>rr o a.am _ _) (λT a ai y=>?_);refine ah ?_;intro d c;exact aN T (a.mono aa) c;refine ax ?_;refine aX 54 rfl (λz=>?_) (λz=>?_);have I:=a1 z
 refine al ?_;refine b6 rfl (λJ=>?_) (λJ=>?_);refine aq ?_;refine ao rfl fc rfl (λb e=>fe b g par T (e.has aQ)) ?_;refine fA (k:=0) a bb rfl so rfl (λb o x=>tu o a.am) (λT a ai y=>?_);refine ah ?_;intro d c;exact aN T (a.mono aa) c;refine aD ?_;refine aj (λK=>?_) (λK=>?_);refine aq ?_;refine ge rfl lO rfl (λb o=>mf b g par X T o a) (λT a=>?_);refine ah ?_;intro d c;exact aN T (a.mono aa) c;refine ah ?_;intro d c;exact aN T (a.mono aa) c;have I:=bc z
 refine bI ?_;refine aj (λL=>?_) (λL=>?_);refine aq ?_;refine ge rfl lO rfl (λb o=>mf b g par X T o a) (λT a=>?_);refine ah ?_;intro d c;exact aN T (a.mono aa) c;refine ah ?_;intro d c;exact aN T (a.mono aa) c;refine kw ?_;refine ge rfl pK rfl (λb o=>qn b g par X T o a _ _ _) (λT a=>?_);refine aR ?_;refine b6 rfl (λu=>?_) (λu=>?_);have M:=u
 simp only[b3] at u
 refine ah ?_;intro d c;exact aN T (a.mono aa) c;have M:=u
 simp only[b3] at u
 refine aD ?_;refine aj (λN=>?_) (λN=>?_);refine aq ?_;refine ao rfl fc rfl (λb e=>fe b g par T (e.has aQ)) ?_;refine fA (k:=0) a bb rfl pL rfl (λb o x=>rr o a.am _ _) (λT a ai y=>?_);refine ah ?_;intro d c;exact aN T (a.mono aa) c;refine ax ?_;refine aX 54 rfl (λA=>?_) (λA=>?_);have O:=a1 A
 refine al ?_;refine b6 rfl (λP=>?_) (λP=>?_);refine aq ?_;refine ao rfl fc rfl (λb e=>fe b g par T (e.has aQ)) ?_;refine fA (k:=0) a bb rfl so rfl (λb o x=>tu o a.am) (λT a ai y=>?_);refine ah ?_;intro d c;exact aN T (a.mono aa) c;refine aD ?_;refine aj (λQ=>?_) (λQ=>?_);refine aq ?_;refine ge rfl lO rfl (λb o=>mf b g par X T o a) (λT a=>?_);refine ah ?_;intro d c;exact aN T (a.mono aa) c;refine ah ?_;intro d c;exact aN T (a.mono aa) c;have O:=bc A
 refine bI ?_;refine aj (λS=>?_) (λS=>?_);refine aq ?_;refine ge rfl lO rfl (λb o=>mf b g par X T o a) (λT a=>?_);refine ah ?_;intro d c;exact aN T (a.mono aa) c;refine ah ?_;intro d c;exact aN T (a.mono aa) c
end
end Go.Proofs.YtoghoobfpcadbaaGreatDoor.Mq
