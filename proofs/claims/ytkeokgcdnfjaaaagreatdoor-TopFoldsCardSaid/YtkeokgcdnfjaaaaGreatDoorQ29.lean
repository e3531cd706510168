/- part 29 of the proof -/
import Derived.Test.YtkeokgcdnfjaaaaGreatDoorQ28
namespace Go.Proofs.YtkeokgcdnfjaaaaGreatDoor.Mq
open Go Go.RowKit Go.Proofs Tryz
theorem IW (T:bK): (T.b8=T.am.g∧T.dN=T.bj.g)∨(T.b8=T.bj.g∧T.dN=T.am.g):=by
 unfold bK.b8 bK.dN;cases T.use
 exact .inl ⟨rfl,rfl⟩;exact .inr ⟨rfl,rfl⟩
theorem kK.trans {A a C:bK} (h:kK A a) (k:kK a C):kK A C:=⟨k.use.trans h.use,k.am.trans h.am,k.bj.trans h.bj⟩
theorem yp [Inhabited et] (w:World) (g par:Nat) (X:Chunk) (T:bK) (r:bb w (bx g par X T)) {R:Int} {m:Nat} (s:cj g R m T):
 Calls prog 239 [ptr g].toArray w (hn g par X R m (.tuple #[]) T w):=by
 refine bI func239 ntmps239 r ?_;refine ay ?_;refine cw (vs:=[ptr T.b8,ptr T.dN]) DO rfl rfl rfl (λF v j u y=>v.kY (sz:=2) (xs:=o2 par T) aQ rfl j u y) ?_;refine aS ?_;refine b3 (ι:=Nat × bK) (λt=>[(0,ptr g),(7,.agg [ptr T.b8,ptr T.dN].toArray),(8,.int .i64 (t.1 :Int))]) (λt=>af w (aB (bx g par X T)) (bx g par X t.2)) (λt=>t.1≤2∧cj g R m t.2∧kK T t.2) (λt=>2 - t.1) ?_ ?_;exact λw' z=>⟨(0,T),⟨bN _,s,rfl,rfl,rfl⟩,(dZ rfl rfl rfl),z⟩
 rintro⟨i,bu⟩ ⟨hi,b,c⟩;dsimp only at hi b c ⊢
 refine al ?_;have A:i<2→ ∃q,[ptr T.b8,ptr T.dN][i]? = some (ptr q)∧(q=bu.am.g∨q=bu.bj.g):=λG=>by
  rw[c.am,c.bj];rcases IW T with ⟨l,n⟩ | ⟨l,n⟩ <;> (rcases (by omega:i=0∨i=1) with rfl | rfl) <;> simp[l,n]
 refine aj (λB=>?_) (λB=>?_);obtain⟨q,p,C⟩:=A aa;rcases C with ai | ai
 refine al ?_;refine lH (q:=i) underlying88 qM rfl rfl rfl aa aa p ?_;refine ah ?_;refine bG [0,1,2,3,4,6,7,8,9,11,12,13,14] 4 [[(5,false,[]),(10,false,[]),(15,false,[16]),(17,true,[])]] ?_;refine cE ?_;refine ao rfl na rfl (λa d=>dt.qe a bu.b6 b.md _ _) ?_;refine ah ?_;refine ao rfl na rfl (λa d=>dt.qe a bu.b6 b.md _ _) ?_;refine ah ?_;refine ao rfl na rfl (λa d=>dt.qe a bu.b6 b.md _ _) ?_;refine bY (λ_=>True) (λ_ h=> .inr ⟨.inr ⟨.inr h,dj⟩,dj⟩) (λ_ h=>aU) ?_;refine ah ?_;refine fx (k:=0) b ai rfl EU rfl (λa o x=>HZ o b.am _ _ _) (λV e D f=>?_);refine aJ ?_;exact bg (i+1,V) ⟨aa,e,c.trans f⟩ bm bO (λ_ h=>h);refine al ?_;refine lH (q:=i) underlying88 qM rfl rfl rfl aa aa p ?_;refine ah ?_;refine bG [0,1,2,3,4,6,7,8,9,11,12,13,14] 4 [[(5,false,[]),(10,false,[]),(15,false,[16]),(17,true,[])]] ?_;refine cE ?_;refine ao rfl na rfl (λa d=>dt.qe a bu.b6 b.md _ _) ?_;refine ah ?_;refine ao rfl na rfl (λa d=>dt.qe a bu.b6 b.md _ _) ?_;refine ah ?_;refine ao rfl na rfl (λa d=>dt.qe a bu.b6 b.md _ _) ?_;refine bY (λ_=>True) (λ_ h=> .inr ⟨.inr ⟨.inr h,dj⟩,dj⟩) (λ_ h=>aU) ?_;refine ah ?_;refine vv (k:=0) b ai rfl EU rfl (λa o x=>HZ o b.bj _ _ _) (λV e D f=>?_);refine aJ ?_;exact bg (i+1,V) ⟨aa,e,c.trans f⟩ bm bO (λ_ h=>h);refine ay ?_;intro H E;exact aN bu b E
abbrev IX (m:Nat):Nat:=dt.cR (dt.cR (dt.cR (dt.cR m false 4 false) true 6 false) true 7 true) true 25 true
theorem UX {m:Nat} (h:m<4294967296):IX m<4294967296:=dt.o5 (dt.o5 (dt.o5 (dt.o5 h _ _ _) _ _ _) _ _ _) _ _ _
theorem cj.UY {g:Nat} {R:Int} {m:Nat} {T:bK} (h:cj g R m T) {b:Nat} (a:b<4294967296):cj g R m { T with b6:=b }:=⟨h.am,h.bj,h.room,h.bL,h.cg,h.be,h.buf,h.aF,a⟩
theorem qh [Inhabited et] (w:World) (g par:Nat) (X:Chunk) (T:bK) (d:bb w (bx g par X T)) {R:Int} {m:Nat} (a:cj g R m T) (p:Bool) (n:Int) (b:Bool):
 Calls prog 222 [ptr g,.bool p,.int .i64 n,.bool b].toArray w (hn g par X R m (.tuple #[]) T w):=by
 have e:cj g R m { T with b6:=dt.cR T.b6 p n b }:=⟨a.am,a.bj,a.room,a.bL,a.cg,a.be,a.buf,a.aF,dt.o5 a.md p n b⟩
 refine bI func222 ntmps222 d ?_;refine aR ?_;refine ao rfl qQ rfl (λc i=>dt.oz c T.b6 a.md _ _ _) ?_;refine aC ?_;refine ga (T:={ T with b6:=dt.cR T.b6 p n b }) rfl wN rfl (λc o=>yp c g par X _ o e) (λV f=>?_);refine ar ?_;intro j h;exact aN V f h
theorem l8 [Inhabited et] (w:World) (g par:Nat) (X:Chunk) (T:bK) (d:bb w (bx g par X T)) {R:Int} {m:Nat} (b:cj g R m T):
 Calls prog 216 [ptr g].toArray w (hn g par X R m (.tuple #[]) T w):=by
 refine bI func216 ntmps216 d ?_;refine ah ?_;refine ao rfl fa rfl (λa c=>fc a g par T (c.has aQ)) ?_;refine fx (k:=0) b a7 rfl NW rfl (λa o x=>Tj o b.am) (λT b ai f=>?_);refine ay ?_;refine ao rfl fa rfl (λa c=>fc a g par T (c.has aQ)) ?_;refine ao rfl iZ rfl (λa c=>jl a T.am (c.ea (l:=aO T.am) bF Has.head)) ?_;refine j2 (t:=106) (off:=13) ab DP rfl rfl rfl ?_;refine Hv (t:=4) (off:=2) ab px rfl rfl rfl ?_;refine ga rfl pD rfl (λa o=>qh a g par X T o b _ _ _) (λT b=>?_);refine ar ?_;intro h e;exact aN T b e
theorem UZ [Inhabited et] (w:World) (g par:Nat) (X:Chunk) (T:bK) (d:bb w (bx g par X T)) {R:Int} {m:Nat} (b:cj g R m T):
 Calls prog 173 [ptr g].toArray w (hn g par X R m (.tuple #[]) T w):=by
 refine bI func173 ntmps173 d ?_;refine ah ?_;refine ao rfl fa rfl (λa c=>fc a g par T (c.has aQ)) ?_;refine fx (k:=0) b a7 rfl zO rfl (λa o x=>BR o b.am) (λT b ai f=>?_);refine aJ ?_;refine ao rfl qQ rfl (λa c=>dt.oz a _ (by repeat (exact b.md)) _ _ _) ?_;refine ao rfl qQ rfl (λa c=>dt.oz a _ (by repeat (first | exact b.md | apply dt.o5)) _ _ _) ?_;refine ao rfl qQ rfl (λa c=>dt.oz a _ (by repeat (first | exact b.md | apply dt.o5)) _ _ _) ?_;refine ao rfl qQ rfl (λa c=>dt.oz a _ (by repeat (first | exact b.md | apply dt.o5)) _ _ _) ?_;refine aC ?_;refine ga (T:={ T with b6:=IX T.b6 }) rfl wN rfl (λa o=>yp a g par X _ o (b.UY (UX b.md))) (λT b=>?_);refine ar ?_;intro h e;exact aN T b e
theorem yq [Inhabited et] (w:World) (g par:Nat) (X:Chunk) (T:bK) (f:bb w (bx g par X T)) {R:Int} {m:Nat} (a:cj g R m T) (l:m≤900000000000) (c k:Int):
 Calls prog 169 [ptr g,.int .u8 c,.int .i64 k].toArray w (hn g par X R (m+1) (.tuple #[]) T w):=by
 refine bI func169 ntmps169 f ?_;refine al ?_;refine aj (λh=>?_) (λh=>?_);refine ar ?_;refine ao rfl fa rfl (λb d=>fc b g par T (d.has aQ)) ?_;refine aq ?_;refine fx (k:=1) a a7 rfl ov rfl (λb o x=>o4 o a.am (by have:=a.be;omega) _) (λT a ai i=>?_);refine ar ?_;intro j e;exact aN T (a.mono aa) e;refine ar ?_;refine ao rfl fa rfl (λb d=>fc b g par T (d.has aQ)) ?_;refine aq ?_;refine fx (k:=0) a a7 rfl Nr rfl (λb o x=>Tc o a.am _) (λT a ai i=>?_);refine ar ?_;intro j e;exact aN T (a.mono aa) e
theorem dW.Cf {w w':World} {s:bk} {a:List Bool} {e:Ending} (f:bb w (aO s)) (d:dO s) (b:a.length=s.st.bs.length) (h:cK.eg s.st.g s.st.bs.length s.st.i a w e w'):dW 0 s (.tuple #[]) w e w':=by
 obtain⟨j,k,rfl,l,ai,m,o⟩:=h;refine⟨{ s with st:=⟨s.st.g,a,j⟩ },⟨rfl,rfl,rfl,⟨d.r,k,by rw[b];exact d.n⟩,⟨λw=>⟨w.bC,w.y,w.x,w.top⟩,rfl,rfl,rfl,cd _⟩⟩,rfl,?_⟩;refine (f.start w rfl).hV (c:=s.st.aF) (c':=cK.eA s.st.g a.length j) (bn.tail (bn.tail (bn.tail (bn.tail (bn.tail (bn.tail bn.head)))))) l ?_ ?_ ?_;rw[b];exact ai
 rw[b];exact m
 rw[b];exact o
theorem tA {w:World} {s:bk} (a:bb w (aO s)):s.st.aF.ce.Nodup:=by
 have h:=a.2
 rw[show aB (aO s)=aB [s.an,s.ap.an,aT (b9 s.ap.r),s.ap.s.au,s.ap.s.cc,s.ap.be.au]++(s.st.aF.ce++[]) from by simp[aB],fJ] at h
 exact (fK.1 h).2.1
theorem Cg {w:World} {s:bk} (a:bb w (aO s)):s.st.aF.pred w:=a.1 _ av
theorem IY [Inhabited et] {w:World} {s:bk} (a:bb w (aO s)) (b:dS s) (x:Int) (c: -9223372036854775808≤x∧x≤9223372036854775807):Calls prog 193 [ptr s.st.g,.int .i64 x].toArray w (dW 0 s (.tuple #[]) w):=
 (cK.GK w s.st.g s.st.bs s.st.i b.g.st (Cg a) (tA a) x c).mono (λ_ _ h=>dW.Cf a b.g (cK.mF _ _ _) h)
theorem U0 [Inhabited et] {w:World} {s:bk} (a:bb w (aO s)) (b:dS s) (x:Int) (c: -9223372036854775808≤x∧x≤9223372036854775807):Calls prog 192 [ptr s.st.g,.int .i64 x].toArray w (dW 0 s (.tuple #[]) w):=
 (cK.GL w s.st.g s.st.bs s.st.i b.g.st (Cg a) (tA a) x c).mono (λ_ _ h=>dW.Cf a b.g (cK.mF _ _ _) h)
theorem IZ [Inhabited et] {w:World} {s:bk} (b:bb w (aO s)) (a:dS s):Calls prog 251 [ptr s.st.g].toArray w (dW 0 s (.tuple #[]) w):=
 (cK.AA w s.st.g s.st.bs s.st.i a.g.st (Cg b) (tA b) (by have:=a.g.n;have:=a.ok.nums.2.1;omega)).mono (λ_ _ h=>dW.Cf b a.g g_ h)
theorem I0 [Inhabited et] (w:World) (s:bk) (f:bb w (aO s)) (e:dS s):Calls prog 313 [ptr s.g].toArray w (dW 0 s (.tuple #[]) w):=by
 refine bI func313 ntmps313 f ?_;refine ah ?_;refine ao rfl wL rfl (λb a=>xS b s (a.has aQ)) ?_;refine al ?_;refine cI (λb a=>IZ a e) (λs1 j=>?_);refine aK ?_;refine b3 (ι:=Nat × bk) (λt=>[(2,ptr s.st.g),(3,.int .i64 (t.1 :Int))]) (λt=>af w (aB (aO s)) (aO t.2)) (λt=>t.1≤2000∧ge 0 s t.2) (λt=>2008 - t.1) ?_ ?_;exact λw' k=>⟨(0,s1),⟨bN _,j⟩,(iA rfl rfl),k⟩
 rintro⟨i,bu⟩ ⟨hi,c⟩;dsimp only at hi c ⊢
 have d:=c.ok e
 have q:=d.g.n
 have a:=d.ok.nums.2.1
 have l:=c.st
 rw[←l];refine ay ?_;refine ao rfl EY rfl (λb a=>cK.GD b bu.st.g bu.st.bs.length bu.st.i (cK.gu.of (a.has eY) d.g.st.len)) ?_;refine ah ?_;refine aj (λm=>?_) (λm=>?_);refine aC ?_;refine aZ (l0:=aO bu) ae rfl zJ rfl (λb a=>IY (a.bp ae) d i aa) (λz o=>?_);refine aK ?_;exact bg (i+8,z) ⟨aa,c.trans o⟩ bm bO (λ_ h=>h);refine ay ?_;intro r p;exact aN bu c p
theorem U1 [Inhabited et] (w:World) (g par:Nat) (X:Chunk) (T:bK) (G:bb w (bx g par X T)) (P:vt X) {R:Int} {m:Nat} (H:cj g R m T) (Q:m≤900000000000):
 Calls prog 221 [ptr g].toArray w (hn g par X R (m+2) (.tuple #[]) T w):=by
 refine bI func221 ntmps221 G ?_;refine al ?_;refine cw (vs:=[ptr T.b8,ptr T.dN]) DO rfl rfl rfl (λS e j u I=>e.kY (sz:=2) (xs:=o2 par T) aQ rfl j u I) ?_;refine aS ?_;refine b3 (ι:=Nat × bK) (λt=>[(0,ptr g),(7,.agg [ptr T.b8,ptr T.dN].toArray),(8,.int .i64 (t.1 :Int))]) (λt=>af w (aB (bx g par X T)) (bx g par X t.2)) (λt=>t.1≤2∧cj g R (m+t.1) t.2∧kK T t.2) (λt=>2 - t.1) ?_ ?_;exact λw' J=>⟨(0,T),⟨bN _,H,rfl,rfl,rfl⟩,(dZ rfl rfl rfl),J⟩
 rintro⟨i,bu⟩ ⟨hi,a,c⟩;dsimp only at hi a c ⊢
 have K:i<2→ ∃q,[ptr T.b8,ptr T.dN][i]? = some (ptr q)∧(q=bu.am.g∨q=bu.bj.g):=λf=>by
  rw[c.am,c.bj];rcases IW T with ⟨y,z⟩ | ⟨y,z⟩ <;> (rcases (by omega:i=0∨i=1) with rfl | rfl) <;> simp[y,z]
 refine al ?_;refine aj (λL=>?_) (λL=>?_);obtain⟨q,A,M⟩:=K aa;rcases M with ai | ai
 refine al ?_;refine lH (q:=i) underlying88 qM rfl rfl rfl aa aa A ?_;refine al ?_;refine fx (k:=0) a ai rfl zO rfl (λb o x=>BR o a.am) (λbu a ai l=>?_);refine ay ?_;refine fx (k:=1) a ai rfl ov rfl (λb o x=>o4 o a.am (by have:=a.be;omega) _) (λbu a ai n=>?_);refine ay ?_;refine fx (k:=0) a ai rfl pE rfl (λb o x=>rk o a.am _ _) (λbu a ai p=>?_);refine aS ?_;refine fx (k:=0) a ai rfl ET rfl (λb o x=>I0 b _ o a.am) (λbu a ai r=>?_);have c:=(((c.trans l).trans n).trans p).trans r
 refine aC ?_;exact bg (i+1,bu) ⟨aa,a.mono aa,c⟩ bm bO (λ_ h=>h);refine al ?_;refine lH (q:=i) underlying88 qM rfl rfl rfl aa aa A ?_;refine al ?_;refine vv (k:=0) a ai rfl zO rfl (λb o x=>BR o a.bj) (λbu a ai l=>?_);refine ay ?_;refine vv (k:=1) a ai rfl ov rfl (λb o x=>o4 o a.bj (by have:=a.be;omega) _) (λbu a ai n=>?_);refine ay ?_;refine vv (k:=0) a ai rfl pE rfl (λb o x=>rk o a.bj _ _) (λbu a ai p=>?_);refine aS ?_;refine vv (k:=0) a ai rfl ET rfl (λb o x=>I0 b _ o a.bj) (λbu a ai r=>?_);have c:=(((c.trans l).trans n).trans p).trans r
 refine aC ?_;exact bg (i+1,bu) ⟨aa,a.mono aa,c⟩ bm bO (λ_ h=>h);obtain⟨am,bj,use,b6,cg,bL,buf,aF⟩:=bu;have N:=a.mono (k:=m+2) aa
 obtain⟨e,f,B,C,U,D,E,F,W⟩:=N;cases use with
 | false=>
  refine aR ?_;refine ao rfl zw rfl (λb d=>dt.uY b) ?_;refine bH ?_;refine aZ (l0:=bx g par X ⟨am,bj,false,dt.o6,[],bL,buf,aF⟩) ae rfl wN rfl (λb d=>yp b g par X _ (d.bp ae) (R:=R) (m:=m+2) ⟨e,f,B,C,by simp,D,E,F,show dt.o6<4294967296 by decide⟩) (λV s=>?_);refine ar ?_;intro O v;exact aN V s v
 | true=>
  refine aR ?_;refine ao rfl zw rfl (λb d=>dt.uY b) ?_;refine bH ?_;refine aZ (l0:=bx g par X ⟨bj,am,false,dt.o6,[],bL,buf,aF⟩) ae rfl wN rfl (λb d=>yp b g par X _ (d.bp ae) (R:=R) (m:=m+2) ⟨f,e,B,C,by simp,by dsimp only at D ⊢;omega,E,F,show dt.o6<4294967296 by decide⟩) (λV s=>?_);refine ar ?_;intro O v;exact aN V s v
theorem tB (n:Nat) (h:n≤1001): (Lib.decDigits n).length≤21:=cS.H5 aa
theorem U2 [Inhabited et] (p:Bool) (y x:Int): (cS.x9 p (cS.eV y) (cS.eV x)).length≤1000:=by
 have a:=tB (cS.eV y+1) (by have:=cS.lZ y;omega)
 have b:=tB (cS.eV x+1) (by have:=cS.lZ x;omega)
 unfold cS.x9;cases p <;> simp <;> omega
theorem I1 [Inhabited et] (w:World) (g par:Nat) (X:Chunk) (T:bK) (h:bb w (bx g par X T)) (e:vt X) {R:Int} {m:Nat} (c:cj g R m T) (q:m≤900000000000) (p:Bool):
 Calls prog 168 [ptr g,.bool p].toArray w (hn g par X R (m+1000) (.tuple #[]) T w):=by
 have f:=U2 p
 have r:0≤T.am.y∧T.am.y≤1000:=by have i:=c.am.ok.y;have j:=sY c.am.ok;simp only[bk.abs,bd.rows] at *;omega
 have s:0≤T.am.top∧T.am.top≤1000:=by have i:=c.am.ok.top;have j:=sY c.am.ok;simp only[bk.abs,bd.rows] at *;omega
 refine bI func168 ntmps168 h ?_;refine ah ?_;refine ao rfl fa rfl (λa b=>fc a g par T (b.has aQ)) ?_;refine ao rfl iZ rfl (λa b=>jl a T.am (b.ea (l:=aO T.am) bF Has.head)) ?_;refine aq ?_;intro t u v;refine eX zq rfl rfl (by rw[BF];exact bn.head) rfl (aI.cons rfl (aI.cons rfl (aI.cons rfl (aI.cons rfl (aI.cons rfl (aI.cons rfl (aI.cons rfl (aI.cons rfl (aI.cons rfl (fY rfl rfl rfl rfl rfl rfl rfl rfl rfl rfl)))))))))) (by exact dT rfl) ?_;refine eT ?_;refine b2 rfl (λk=>?_) (λk=>?_);refine bw ?_;refine ao rfl qS rfl (λa b=>rs a g par T (b.has bF) (b.ea (l:=aO T.am) cp Has.head) (b.ea (l:=aO T.am) cp (Has.tail Has.head)) c.am.ok.nums.2.1) ?_;refine aq ?_;refine ao rfl EC rfl (λa b=>cS.Ib a (e a (b.has eY)).it _ _ _) ?_;refine gX rfl nc rfl (λa o=>nS a g par X T o c _ aa (by apply f)) (λT c=>?_);refine ar ?_;intro n d;exact aN T (c.mono aa) d;refine al ?_;refine ao rfl qS rfl (λa b=>rs a g par T (b.has bF) (b.ea (l:=aO T.am) cp Has.head) (b.ea (l:=aO T.am) cp (Has.tail Has.head)) c.am.ok.nums.2.1) ?_;refine aq ?_;refine ao rfl EC rfl (λa b=>cS.Ib a (e a (b.has eY)).it _ _ _) ?_;refine gX rfl nc rfl (λa o=>nS a g par X T o c _ aa (by apply f)) (λT c=>?_);refine ar ?_;intro n d;exact aN T (c.mono aa) d
theorem U3 [Inhabited et] (w:World) (g par:Nat) (X:Chunk) (T:bK) (y:bb w (bx g par X T)) (q:vt X) {R:Int} {m:Nat} (a:cj g R m T) (I:m≤900000000000) (c:Int):
 Calls prog 163 [ptr g,ptr T.am.g,.int .u8 c].toArray w (hn g par X R (m+1000) (.tuple #[]) T w):=by
 refine bI func163 ntmps163 y ?_;refine bw ?_;refine aj (λz=>?_) (λz=>?_);refine ar ?_;refine fx (k:=0) a a7 rfl se rfl (λb o x=>tj o a.am) (λT a ai h=>?_);refine ah ?_;intro f d;exact aN T (a.mono aa) d;refine al ?_;refine aj (λaH=>?_) (λaH=>?_);refine ar ?_;refine ga rfl lG rfl (λb o=>l8 b g par X T o a) (λT a=>?_);refine ah ?_;intro f d;exact aN T (a.mono aa) d;refine al ?_;refine aj (λA=>?_) (λA=>?_);refine ar ?_;refine fx (k:=2) a a7 rfl up rfl (λb o x=>HX o a.am (by have:=a.be;omega)) (λT a ai h=>?_);refine ah ?_;intro f d;exact aN T (a.mono aa) d;refine al ?_;refine aj (λB=>?_) (λB=>?_);refine ah ?_;refine fx (k:=2) a a7 rfl up rfl (λb o x=>HX o a.am (by have:=a.be;omega)) (λT a ai h=>?_);refine aS ?_;refine fx (k:=0) a ai rfl qR rfl (λb o x=>th o a.am) (λT a ai h=>?_);refine ah ?_;intro f d;exact aN T (a.mono aa) d;refine al ?_;refine aj (λC=>?_) (λC=>?_);refine ar ?_;refine fx (k:=2) a a7 rfl Nn rfl (λb o x=>Tk o a.am (by have:=a.be;omega)) (λT a ai h=>?_);refine ah ?_;intro f d;exact aN T (a.mono aa) d;refine al ?_;refine aj (λD=>?_) (λD=>?_);refine ar ?_;refine ao rfl wL rfl (λb e=>xS b T.am (e.ea (l:=aO T.am) bF Has.head)) ?_;refine aq ?_;refine ao rfl qS rfl (λb e=>rs b g par T (e.has aQ) (e.ea (l:=aO T.am) bF Has.head) (e.ea (l:=aO T.am) bF (Has.tail Has.head)) a.am.ok.nums.2.1) ?_;refine UW (k:=0) a rfl zJ rfl (λb o x=>IY o a.am _ (by have:=a.am.ok.nums;omega)) (λT a h=>?_);refine ah ?_;intro f d;exact aN T (a.mono aa) d;refine al ?_;refine aj (λE=>?_) (λE=>?_);refine ar ?_;refine ao rfl EA rfl (λb e=>cS.Ic b (q b (e.has kp)).it) ?_;refine ga rfl nc rfl (λb o=>nS b g par X T o a _ aa a1) (λT a=>?_);refine ah ?_;intro f d;exact aN T (a.mono aa) d;refine al ?_;refine aj (λF=>?_) (λF=>?_);refine ar ?_;refine ga rfl No rfl (λb o=>U1 b g par X T o q a aa) (λT a=>?_);refine ah ?_;intro f d;exact aN T (a.mono aa) d;refine aC ?_;refine aj (λi=>?_) (λi=>?_);have r:=i
 refine ar ?_;refine ev rfl ((b1 r)) ?_;refine aS ?_;refine ga rfl pD rfl (λb o=>qh b g par X T o a _ _ _) (λT a=>?_);refine ah ?_;intro f d;exact aN T (a.mono aa) d;have r:=i
 refine ay ?_;refine aj (λG=>?_) (λG=>?_);refine aS ?_;refine ga rfl pD rfl (λb o=>qh b g par X T o a _ _ _) (λT a=>?_);refine ah ?_;intro f d;exact aN T (a.mono aa) d;refine aC ?_;refine aj (λj=>?_) (λj=>?_);have s:=j
 refine ar ?_;refine ev rfl ((b1 s)) ?_;refine ah ?_;refine ao rfl iZ rfl (λb e=>jl b T.am (e.ea (l:=aO T.am) bF Has.head)) ?_;refine j2 (t:=104) (off:=7) ab lF rfl rfl rfl ?_;refine aq ?_;refine ao rfl wM rfl (λb e=>xR b ⟨_,_,_,_,_,_⟩ _) ?_;refine fx (k:=0) a a7 rfl nb rfl (λb o x=>nM o a.am ⟨_,_,_,_,_,_⟩) (λT a ai h=>?_);refine ah ?_;intro f d;exact aN T (a.mono aa) d;have s:=j
 refine al ?_;refine aj (λn=>?_) (λn=>?_);have u:=n
 refine ar ?_;refine ev rfl ((b1 u)) ?_;refine ah ?_;refine ao rfl iZ rfl (λb e=>jl b T.am (e.ea (l:=aO T.am) bF Has.head)) ?_;refine j2 (t:=104) (off:=7) ab lF rfl rfl rfl ?_;refine aq ?_;refine ao rfl wM rfl (λb e=>xR b ⟨_,_,_,_,_,_⟩ _) ?_;refine fx (k:=0) a a7 rfl nb rfl (λb o x=>nM o a.am ⟨_,_,_,_,_,_⟩) (λT a ai h=>?_);refine ah ?_;intro f d;exact aN T (a.mono aa) d;have u:=n
 refine al ?_;refine aj (λp=>?_) (λp=>?_);have v:=p
 refine ar ?_;refine ev rfl ((b1 v)) ?_;refine ah ?_;refine ao rfl iZ rfl (λb e=>jl b T.am (e.ea (l:=aO T.am) bF Has.head)) ?_;refine j2 (t:=104) (off:=7) ab lF rfl rfl rfl ?_;refine aq ?_;refine ao rfl wM rfl (λb e=>xR b ⟨_,_,_,_,_,_⟩ _) ?_;refine fx (k:=0) a a7 rfl nb rfl (λb o x=>nM o a.am ⟨_,_,_,_,_,_⟩) (λT a ai h=>?_);refine ah ?_;intro f d;exact aN T (a.mono aa) d;have v:=p
 refine ay ?_;refine aj (λH=>?_) (λH=>?_);refine ah ?_;refine ao rfl iZ rfl (λb e=>jl b T.am (e.ea (l:=aO T.am) bF Has.head)) ?_;refine j2 (t:=104) (off:=7) ab lF rfl rfl rfl ?_;refine aq ?_;refine ao rfl wM rfl (λb e=>xR b ⟨_,_,_,_,_,_⟩ _) ?_;refine fx (k:=0) a a7 rfl nb rfl (λb o x=>nM o a.am ⟨_,_,_,_,_,_⟩) (λT a ai h=>?_);refine ah ?_;intro f d;exact aN T (a.mono aa) d;refine ah ?_;intro f d;exact aN T (a.mono aa) d
section
section
variable {P:Program} {n:Nat} {ops:Array Oper} {Q:cl} {rest:List Oper} {l:Fr} {d:Nat} {ty:TypeId} {pos:String} {a6:Array Edge}
variable {b:World} {S:List Nat} {args:List Operand} {c_:Array TypeId} {f:FuncId} {vs:List Value} {v:Value} {g par k m p:Nat} {R:Int} {T:bK} {X:Chunk}
theorem tC (e:cj g R m T) (ak:Nat.blt d n=true) (i:ad P f) (j:cH l args=some vs)
 (o: ∀w,af b S (bx g par X T) w→Calls P f vs.toArray w (dW k T.am v w))
 (h: ∀bu:bK,cj g R (m+k) bu→kK T bu→az P n ops Q rest ((d,v)::l) (af b S (bx g par X bu))):
 az P n ops Q (⟨some d,.call ⟨.value (.func f),args.toArray,c_⟩,ty,pos,a6,none⟩::rest) l (af b S (bx g par X T)):=by
 refine kB (l0:=aO T.am) (l':=aO) (cs1:=λz=>[eI g par T,aT (aO z),aT (aO T.bj),T.buf.au,T.aF.au,X]) (λz=>bn.tail bn.head) ak i j o (λz a=>?_);have c:=h { T with am:=z } (e.ri a) ⟨rfl,a.g,rfl⟩
 simp only[bx] at c
 rw[rj a.g] at c
 exact c
theorem apart {w:World} (h:af b S (bx g par X T) w) {x:Nat} (c:x∈aB (aO T.bj)):x∉aB (aO T.am):=λd=>by
 have a:=h.nodup
 rw[show aB (bx g par X T)=(eI g par T).ce++(aB (aO T.am)++(aB (aO T.bj)++aB [T.buf.au,T.aF.au,X])) from by simp[aB,aT]] at a
 exact (fK.1 (fK.1 a).2.1).2.2 x d x (n7 _ c) rfl
end
theorem tD [Inhabited et] {w b:World} {S:List Nat} {g par:Nat} {X:Chunk} {T:bK} {R:Int} {m q:Nat} (a:cj g R m T) (c:q=T.bj.g) (h:af b S (bx g par X T) w):Calls prog 386 [ptr T.am.g,ptr q].toArray w (dW 0 T.am (.tuple #[]) w):=by
 subst c;exact SY w T.am T.bj (h.kA (Has.tail Has.head)) a.am.g a.am.ok.bC (h.ea (l:=aO T.bj) cp Has.head) (h.ea (l:=aO T.bj) cp (Has.tail Has.head)) a.bj.ok.nums.2.1 (apart h (by simp[aB,bk.an,aD])) (apart h (by simp[aB,bk.an,aD]))
theorem cj.swap {g:Nat} {R:Int} {m:Nat} {am bj:bk} {use:Bool} {b6:Nat} {cg:List UInt8} {bL:Option Addr} {buf:ij} {aF:nK} (h:cj g R m ⟨am,bj,use,b6,cg,bL,buf,aF⟩):cj g R m ⟨bj,am,!use,b6,cg,bL,buf,aF⟩:=by
 refine⟨h.bj,h.am,?_,h.bL,h.cg,?_,h.buf,h.aF,h.md⟩
 ·have:=h.room
  cases use <;> exact this
 ·have:=h.be
  dsimp only at this ⊢
  omega
theorem Ch [Inhabited et] (w:World) (g par:Nat) (X:Chunk) (T:bK) (s:bb w (bx g par X T)) {R:Int} {m:Nat} (a:cj g R m T) (J:m≤900000000000) (t u:Bool):
 Calls prog 323 [ptr g,.bool t,.bool u].toArray w (hn g par X R (m+1) (.tuple #[]) T w):=by
 obtain⟨am,bj,use,b6,cg,bL,buf,aF⟩:=T;refine bI func323 ntmps323 s ?_;cases use with
 | false=>
  refine aJ ?_;refine ze underlying4 rfl rfl rfl ?_;refine ar ?_;refine aj (λy=>?_) (λy=>?_)
  ·skip
   refine ah ?_;intro e c;exact aP.bP ⟨am,bj,_,b6,cg,bL,buf,aF⟩ (a.mono aa) rfl (c.aw ae)
  ·skip
   refine ay ?_;refine ao rfl fa rfl (λb d=>fc b g par _ (d.has aQ)) ?_;refine aK ?_;refine aV 17 rfl (λaH=>?_) (λaH=>?_)
   ·skip
    refine ay ?_;refine b2 rfl (λz=>?_) (λz=>?_)
    ·skip
     refine ar ?_;refine fx (k:=0) a rfl rfl se rfl (λb o x=>tj o a.am) (λ⟨am,bj,use,b6,cg,bL,buf,aF⟩ a ai f=>?_);obtain rfl:use=false:=f.use
     refine aK ?_;refine ba (v:= .int .i64 0) bM rfl rfl (λi h=>h.eM aQ rfl) ?_;refine aS ?_;have a:=a.swap
     refine ha (H':=af w _ (bx g par X ⟨bj,am,true,b6,cg,bL,buf,aF⟩)) ?_ (Sub.refl _) (λ_ c=>c.aw ae);refine ay ?_;refine ao rfl fa rfl (λb d=>fc b g par _ (d.has aQ)) ?_;refine aq ?_;refine tC (k:=0) a rfl sk rfl (λb d=>tD a ai d) (λT a f=>?_);refine aJ ?_;refine b2 rfl (λj=>?_) (λj=>?_)
     ·simp only[bU] at j
      refine ah ?_;intro e c;exact aN T (a.mono aa) c
     ·simp only[bU] at j
      refine aC ?_;refine b2 rfl (λA=>?_) (λA=>?_)
      ·skip
       refine ar ?_;refine ao rfl fa rfl (λb d=>fc b g par _ (d.has aQ)) ?_;refine fx (k:=1) a a7 rfl ov rfl (λb o x=>o4 o a.am (by have:=a.be;omega) _) (λT a ai f=>?_);refine ar ?_;intro e c;exact aN T (a.mono aa) c
      ·skip
       refine ar ?_;refine ga rfl lG rfl (λb o=>l8 b g par X T o a) (λT a=>?_);refine ar ?_;intro e c;exact aN T (a.mono aa) c
    ·skip
     refine aK ?_;refine ba (v:= .int .i64 0) bM rfl rfl (λi h=>h.eM aQ rfl) ?_;refine aS ?_;have a:=a.swap
     refine ha (H':=af w _ (bx g par X ⟨bj,am,true,b6,cg,bL,buf,aF⟩)) ?_ (Sub.refl _) (λ_ c=>c.aw ae);refine ay ?_;refine ao rfl fa rfl (λb d=>fc b g par _ (d.has aQ)) ?_;refine aq ?_;refine tC (k:=0) a rfl sk rfl (λb d=>tD a a7 d) (λT a f=>?_);refine aJ ?_;refine b2 rfl (λl=>?_) (λl=>?_)
     ·simp only[bU] at l
      refine ah ?_;intro e c;exact aN T (a.mono aa) c
     ·simp only[bU] at l
      refine aC ?_;refine b2 rfl (λB=>?_) (λB=>?_)
      ·skip
       refine ar ?_;refine ao rfl fa rfl (λb d=>fc b g par _ (d.has aQ)) ?_;refine fx (k:=1) a a7 rfl ov rfl (λb o x=>o4 o a.am (by have:=a.be;omega) _) (λT a ai f=>?_);refine ar ?_;intro e c;exact aN T (a.mono aa) c
      ·skip
       refine ar ?_;refine ga rfl lG rfl (λb o=>l8 b g par X T o a) (λT a=>?_);refine ar ?_;intro e c;exact aN T (a.mono aa) c
   ·skip
    refine bH ?_;refine ba (v:= .int .i64 0) bM rfl rfl (λi h=>h.eM aQ rfl) ?_;refine aS ?_;have a:=a.swap
    refine ha (H':=af w _ (bx g par X ⟨bj,am,true,b6,cg,bL,buf,aF⟩)) ?_ (Sub.refl _) (λ_ c=>c.aw ae);refine ay ?_;refine ao rfl fa rfl (λb d=>fc b g par _ (d.has aQ)) ?_;refine aq ?_;refine tC (k:=0) a rfl sk rfl (λb d=>tD a a7 d) (λT a f=>?_);refine aJ ?_;refine b2 rfl (λn=>?_) (λn=>?_)
    ·simp only[bU] at n
     refine ah ?_;intro e c;exact aN T (a.mono aa) c
    ·simp only[bU] at n
     refine aC ?_;refine b2 rfl (λC=>?_) (λC=>?_)
     ·skip
      refine ar ?_;refine ao rfl fa rfl (λb d=>fc b g par _ (d.has aQ)) ?_;refine fx (k:=1) a a7 rfl ov rfl (λb o x=>o4 o a.am (by have:=a.be;omega) _) (λT a ai f=>?_);refine ar ?_;intro e c;exact aN T (a.mono aa) c
     ·skip
      refine ar ?_;refine ga rfl lG rfl (λb o=>l8 b g par X T o a) (λT a=>?_);refine ar ?_;intro e c;exact aN T (a.mono aa) c
 | true=>
  refine aJ ?_;refine ze underlying4 rfl rfl rfl ?_;refine ar ?_;refine aj (λD=>?_) (λD=>?_)
  ·skip
   refine ah ?_;intro e c;exact aP.bP ⟨am,bj,_,b6,cg,bL,buf,aF⟩ (a.mono aa) rfl (c.aw ae)
  ·skip
   refine ay ?_;refine ao rfl fa rfl (λb d=>fc b g par _ (d.has aQ)) ?_;refine aK ?_;refine aV 17 rfl (λE=>?_) (λE=>?_)
   ·skip
    refine ay ?_;refine b2 rfl (λF=>?_) (λF=>?_)
    ·skip
     refine ar ?_;refine fx (k:=0) a rfl rfl se rfl (λb o x=>tj o a.am) (λ⟨am,bj,use,b6,cg,bL,buf,aF⟩ a ai f=>?_);obtain rfl:use=true:=f.use
     refine aK ?_;refine ba (v:= .int .i64 1) bM rfl rfl (λi h=>h.eM aQ rfl) ?_;refine aS ?_;have a:=a.swap
     refine ha (H':=af w _ (bx g par X ⟨bj,am,false,b6,cg,bL,buf,aF⟩)) ?_ (Sub.refl _) (λ_ c=>c.aw ae);refine ay ?_;refine ao rfl fa rfl (λb d=>fc b g par _ (d.has aQ)) ?_;refine aq ?_;refine tC (k:=0) a rfl sk rfl (λb d=>tD a ai d) (λT a f=>?_);refine aJ ?_;refine b2 rfl (λp=>?_) (λp=>?_)
     ·simp only[bU] at p
      refine ah ?_;intro e c;exact aN T (a.mono aa) c
     ·simp only[bU] at p
      refine aC ?_;refine b2 rfl (λG=>?_) (λG=>?_)
      ·skip
       refine ar ?_;refine ao rfl fa rfl (λb d=>fc b g par _ (d.has aQ)) ?_;refine fx (k:=1) a a7 rfl ov rfl (λb o x=>o4 o a.am (by have:=a.be;omega) _) (λT a ai f=>?_);refine ar ?_;intro e c;exact aN T (a.mono aa) c
      ·skip
       refine ar ?_;refine ga rfl lG rfl (λb o=>l8 b g par X T o a) (λT a=>?_);refine ar ?_;intro e c;exact aN T (a.mono aa) c
    ·skip
     refine aK ?_;refine ba (v:= .int .i64 1) bM rfl rfl (λi h=>h.eM aQ rfl) ?_;refine aS ?_;have a:=a.swap
     refine ha (H':=af w _ (bx g par X ⟨bj,am,false,b6,cg,bL,buf,aF⟩)) ?_ (Sub.refl _) (λ_ c=>c.aw ae);refine ay ?_;refine ao rfl fa rfl (λb d=>fc b g par _ (d.has aQ)) ?_;refine aq ?_;refine tC (k:=0) a rfl sk rfl (λb d=>tD a a7 d) (λT a f=>?_);refine aJ ?_;refine b2 rfl (λq=>?_) (λq=>?_)
     ·simp only[bU] at q
      refine ah ?_;intro e c;exact aN T (a.mono aa) c
     ·simp only[bU] at q
      refine aC ?_;refine b2 rfl (λH=>?_) (λH=>?_)
      ·skip
       refine ar ?_;refine ao rfl fa rfl (λb d=>fc b g par _ (d.has aQ)) ?_;refine fx (k:=1) a a7 rfl ov rfl (λb o x=>o4 o a.am (by have:=a.be;omega) _) (λT a ai f=>?_);refine ar ?_;intro e c;exact aN T (a.mono aa) c
      ·skip
       refine ar ?_;refine ga rfl lG rfl (λb o=>l8 b g par X T o a) (λT a=>?_);refine ar ?_;intro e c;exact aN T (a.mono aa) c
   ·skip
    refine bH ?_;refine ba (v:= .int .i64 1) bM rfl rfl (λi h=>h.eM aQ rfl) ?_;refine aS ?_;have a:=a.swap
    refine ha (H':=af w _ (bx g par X ⟨bj,am,false,b6,cg,bL,buf,aF⟩)) ?_ (Sub.refl _) (λ_ c=>c.aw ae);refine ay ?_;refine ao rfl fa rfl (λb d=>fc b g par _ (d.has aQ)) ?_;refine aq ?_;refine tC (k:=0) a rfl sk rfl (λb d=>tD a a7 d) (λT a f=>?_);refine aJ ?_;refine b2 rfl (λr=>?_) (λr=>?_)
    ·simp only[bU] at r
     refine ah ?_;intro e c;exact aN T (a.mono aa) c
    ·simp only[bU] at r
     refine aC ?_;refine b2 rfl (λI=>?_) (λI=>?_)
     ·skip
      refine ar ?_;refine ao rfl fa rfl (λb d=>fc b g par _ (d.has aQ)) ?_;refine fx (k:=1) a a7 rfl ov rfl (λb o x=>o4 o a.am (by have:=a.be;omega) _) (λT a ai f=>?_);refine ar ?_;intro e c;exact aN T (a.mono aa) c
     ·skip
      refine ar ?_;refine ga rfl lG rfl (λb o=>l8 b g par X T o a) (λT a=>?_);refine ar ?_;intro e c;exact aN T (a.mono aa) c
theorem U4 [Inhabited et] (w:World) (g par:Nat) (X:Chunk) (T:bK) (C:bb w (bx g par X T)) {R:Int} {m:Nat} (a:cj g R m T) (U:m≤900000000000) (p:Bool) (n:Int) (v:Bool):
 Calls prog 231 [ptr g,.bool p,.int .i64 n,.bool v].toArray w (hn g par X R (m+1) (.tuple #[]) T w):=by
 refine bI func231 ntmps231 C ?_;refine ay ?_;refine aV 11 rfl (λD=>?_) (λD=>?_);refine al ?_;refine aV 14 rfl (λE=>?_) (λE=>?_);refine kq ?_;refine b3 (ι:=Nat × bK) (λt=>[(0,ptr g),(2,.int .i64 n),(3,.bool v),(23,.agg [.int .i64 47,.int .i64 1047,.int .i64 1049].toArray),(24,.int .i64 (t.1 :Int))]) (λt=>af w (aB (bx g par X T)) (bx g par X t.2)) (λt=>t.1≤3∧cj g R m t.2) (λt=>3 - t.1) ?_ ?_;exact λw' f=>⟨(0,T),⟨bN _,a⟩,(ec rfl rfl rfl rfl rfl),f⟩
 rintro⟨i,T⟩ ⟨hi,a⟩;dsimp only at hi a ⊢
 have j:i<3→ ∃q:Int,[Value.int .i64 47,.int .i64 1047,.int .i64 1049][i]? = some (.int .i64 q):=λB=>by
  rcases (by omega:i=0∨i=1∨i=2) with rfl | rfl | rfl <;> exact⟨_,rfl⟩
 refine al ?_;refine aj (λl=>?_) (λl=>?_);obtain⟨q,r⟩:=j aa;refine al ?_;refine lH (q:=i) underlying370 bM rfl rfl rfl aa aa r ?_;refine aC ?_;refine ga rfl pD rfl (λb o=>qh b g par X T o a _ _ _) (λT a=>?_);refine aC ?_;exact bg (i+1,T) ⟨aa,a⟩ bm bO (λ_ h=>h);refine bo ?_;refine ga rfl zT rfl (λb o=>Ch b g par X T o a aa _ _) (λT a=>?_);refine ay ?_;intro d c;exact aN T (a.mono aa) c;refine aK ?_;refine aV 18 rfl (λF=>?_) (λF=>?_);refine dB ?_;refine b3 (ι:=Nat × bK) (λt=>[(0,ptr g),(2,.int .i64 n),(3,.bool v),(23,.agg [.int .i64 47,.int .i64 1047,.int .i64 1049].toArray),(24,.int .i64 (t.1 :Int))]) (λt=>af w (aB (bx g par X T)) (bx g par X t.2)) (λt=>t.1≤3∧cj g R m t.2) (λt=>3 - t.1) ?_ ?_;exact λw' f=>⟨(0,T),⟨bN _,a⟩,(ec rfl rfl rfl rfl rfl),f⟩
 rintro⟨i,T⟩ ⟨hi,a⟩;dsimp only at hi a ⊢
 have j:i<3→ ∃q:Int,[Value.int .i64 47,.int .i64 1047,.int .i64 1049][i]? = some (.int .i64 q):=λB=>by
  rcases (by omega:i=0∨i=1∨i=2) with rfl | rfl | rfl <;> exact⟨_,rfl⟩
 refine al ?_;refine aj (λl=>?_) (λl=>?_);obtain⟨q,r⟩:=j aa;refine al ?_;refine lH (q:=i) underlying370 bM rfl rfl rfl aa aa r ?_;refine aC ?_;refine ga rfl pD rfl (λb o=>qh b g par X T o a _ _ _) (λT a=>?_);refine aC ?_;exact bg (i+1,T) ⟨aa,a⟩ bm bO (λ_ h=>h);refine bo ?_;refine ga rfl zT rfl (λb o=>Ch b g par X T o a aa _ _) (λT a=>?_);refine ay ?_;intro d c;exact aN T (a.mono aa) c;refine aJ ?_;refine aj (λG=>?_) (λG=>?_);refine aK ?_;refine b3 (ι:=Nat × bK) (λt=>[(0,ptr g),(2,.int .i64 n),(3,.bool v),(23,.agg [.int .i64 47,.int .i64 1047,.int .i64 1049].toArray),(24,.int .i64 (t.1 :Int))]) (λt=>af w (aB (bx g par X T)) (bx g par X t.2)) (λt=>t.1≤3∧cj g R m t.2) (λt=>3 - t.1) ?_ ?_;exact λw' f=>⟨(0,T),⟨bN _,a⟩,(ec rfl rfl rfl rfl rfl),f⟩
 rintro⟨i,T⟩ ⟨hi,a⟩;dsimp only at hi a ⊢
 have j:i<3→ ∃q:Int,[Value.int .i64 47,.int .i64 1047,.int .i64 1049][i]? = some (.int .i64 q):=λB=>by
  rcases (by omega:i=0∨i=1∨i=2) with rfl | rfl | rfl <;> exact⟨_,rfl⟩
 refine al ?_;refine aj (λl=>?_) (λl=>?_);obtain⟨q,r⟩:=j aa;refine al ?_;refine lH (q:=i) underlying370 bM rfl rfl rfl aa aa r ?_;refine aC ?_;refine ga rfl pD rfl (λb o=>qh b g par X T o a _ _ _) (λT a=>?_);refine aC ?_;exact bg (i+1,T) ⟨aa,a⟩ bm bO (λ_ h=>h);refine bo ?_;refine ga rfl zT rfl (λb o=>Ch b g par X T o a aa _ _) (λT a=>?_);refine ay ?_;intro d c;exact aN T (a.mono aa) c;refine aK ?_;refine ga rfl pD rfl (λb o=>qh b g par X T o a _ _ _) (λT a=>?_);refine aR ?_;refine b2 rfl (λs=>?_) (λs=>?_);have H:=s
 simp only[bU] at s
 refine ah ?_;intro d c;exact aN T (a.mono aa) c;have H:=s
 simp only[bU] at s
 refine aC ?_;refine aj (λaH=>?_) (λaH=>?_);refine ar ?_;refine ao rfl fa rfl (λb e=>fc b g par T (e.has aQ)) ?_;refine fx (k:=0) a a7 rfl pE rfl (λb o x=>rk o a.am _ _) (λT a ai y=>?_);refine ah ?_;intro d c;exact aN T (a.mono aa) c;refine ay ?_;refine aV 54 rfl (λz=>?_) (λz=>?_);have I:=aY z
 refine al ?_;refine b2 rfl (λJ=>?_) (λJ=>?_);refine ar ?_;refine ao rfl fa rfl (λb e=>fc b g par T (e.has aQ)) ?_;refine fx (k:=0) a a7 rfl se rfl (λb o x=>tj o a.am) (λT a ai y=>?_);refine ah ?_;intro d c;exact aN T (a.mono aa) c;refine aC ?_;refine aj (λK=>?_) (λK=>?_);refine ar ?_;refine ga rfl lG rfl (λb o=>l8 b g par X T o a) (λT a=>?_);refine ah ?_;intro d c;exact aN T (a.mono aa) c;refine ah ?_;intro d c;exact aN T (a.mono aa) c;have I:=a8 z
 refine bH ?_;refine aj (λL=>?_) (λL=>?_);refine ar ?_;refine ga rfl lG rfl (λb o=>l8 b g par X T o a) (λT a=>?_);refine ah ?_;intro d c;exact aN T (a.mono aa) c;refine ah ?_;intro d c;exact aN T (a.mono aa) c;refine kq ?_;refine ga rfl pD rfl (λb o=>qh b g par X T o a _ _ _) (λT a=>?_);refine aR ?_;refine b2 rfl (λu=>?_) (λu=>?_);have M:=u
 simp only[bU] at u
 refine ah ?_;intro d c;exact aN T (a.mono aa) c;have M:=u
 simp only[bU] at u
 refine aC ?_;refine aj (λN=>?_) (λN=>?_);refine ar ?_;refine ao rfl fa rfl (λb e=>fc b g par T (e.has aQ)) ?_;refine fx (k:=0) a a7 rfl pE rfl (λb o x=>rk o a.am _ _) (λT a ai y=>?_);refine ah ?_;intro d c;exact aN T (a.mono aa) c;refine ay ?_;refine aV 54 rfl (λA=>?_) (λA=>?_);have O:=aY A
 refine al ?_;refine b2 rfl (λP=>?_) (λP=>?_);refine ar ?_;refine ao rfl fa rfl (λb e=>fc b g par T (e.has aQ)) ?_;refine fx (k:=0) a a7 rfl se rfl (λb o x=>tj o a.am) (λT a ai y=>?_);refine ah ?_;intro d c;exact aN T (a.mono aa) c;refine aC ?_;refine aj (λQ=>?_) (λQ=>?_);refine ar ?_;refine ga rfl lG rfl (λb o=>l8 b g par X T o a) (λT a=>?_);refine ah ?_;intro d c;exact aN T (a.mono aa) c;refine ah ?_;intro d c;exact aN T (a.mono aa) c;have O:=a8 A
 refine bH ?_;refine aj (λS=>?_) (λS=>?_);refine ar ?_;refine ga rfl lG rfl (λb o=>l8 b g par X T o a) (λT a=>?_);refine ah ?_;intro d c;exact aN T (a.mono aa) c;refine ah ?_;intro d c;exact aN T (a.mono aa) c
end
end Go.Proofs.YtkeokgcdnfjaaaaGreatDoor.Mq
