/- part 30 of the proof -/
import Derived.Test.YtlgnfdodnhokjaaGreatDoorQ29
namespace Go.Proofs.YtlgnfdodnhokjaaGreatDoor.Mq
open Go Go.RowKit Go.Proofs Tryz
theorem JH (T:bL): (T.b_=T.am.g∧T.dP=T.bk.g)∨(T.b_=T.bk.g∧T.dP=T.am.g):=by
 unfold bL.b_ bL.dP;cases T.use
 exact .inl ⟨rfl,rfl⟩;exact .inr ⟨rfl,rfl⟩
theorem kV.trans {A a C:bL} (h:kV A a) (k:kV a C):kV A C:=⟨k.use.trans h.use,k.am.trans h.am,k.bk.trans h.bk⟩
theorem yN [Inhabited bO] (w:World) (g par:Nat) (X:Chunk) (T:bL) (r:a8 w (bz g par X T)) {R:Int} {m:Nat} (s:cp g R m T):
 Calls prog 244 [ptr g].toArray w (hy g par X R m (.tuple #[]) T w):=by
 refine bI func244 ntmps244 r ?_;refine ay ?_;refine cx (vs:=[ptr T.b_,ptr T.dP]) Ed rfl rfl rfl (λF v j u y=>v.k6 (sz:=2) (xs:=pj par T) aT rfl j u y) ?_;refine aS ?_;refine b2 (ι:=Nat × bL) (λt=>[(0,ptr g),(7,.agg [ptr T.b_,ptr T.dP].toArray),(8,.int .i64 (t.1 :Int))]) (λt=>af w (aB (bz g par X T)) (bz g par X t.2)) (λt=>t.1≤2∧cp g R m t.2∧kV T t.2) (λt=>2 - t.1) ?_ ?_;exact λw' z=>⟨(0,T),⟨bP _,s,rfl,rfl,rfl⟩,(em rfl rfl rfl),z⟩
 rintro⟨i,bu⟩ ⟨hi,b,c⟩;dsimp only at hi b c ⊢
 refine al ?_;have A:i<2→ ∃q,[ptr T.b_,ptr T.dP][i]? = some (ptr q)∧(q=bu.am.g∨q=bu.bk.g):=λG=>by
  rw[c.am,c.bk];rcases JH T with ⟨l,n⟩ | ⟨l,n⟩ <;> (rcases (by omega:i=0∨i=1) with rfl | rfl) <;> simp[l,n]
 refine aj (λB=>?_) (λB=>?_);obtain⟨q,p,C⟩:=A aa;rcases C with ai | ai
 refine al ?_;refine lT (q:=i) underlying115 q2 rfl rfl rfl aa aa p ?_;refine ah ?_;refine bF [0,1,2,3,4,6,7,8,9,11,12,13,14] 4 [[(5,false,[]),(10,false,[]),(15,false,[16]),(17,true,[])]] ?_;refine cF ?_;refine ao rfl nr rfl (λa d=>du.qs a bu.b8 b.md _ _) ?_;refine ah ?_;refine ao rfl nr rfl (λa d=>du.qs a bu.b8 b.md _ _) ?_;refine ah ?_;refine ao rfl nr rfl (λa d=>du.qs a bu.b8 b.md _ _) ?_;refine b3 (λ_=>True) (λ_ h=> .inr ⟨.inr ⟨.inr h,dp⟩,dp⟩) (λ_ h=>a1) ?_;refine ah ?_;refine fH (k:=0) b ai rfl Fl rfl (λa o x=>IK o b.am _ _ _) (λV e D f=>?_);refine aJ ?_;exact bi (i+1,V) ⟨aa,e,c.trans f⟩ bm bR (λ_ h=>h);refine al ?_;refine lT (q:=i) underlying115 q2 rfl rfl rfl aa aa p ?_;refine ah ?_;refine bF [0,1,2,3,4,6,7,8,9,11,12,13,14] 4 [[(5,false,[]),(10,false,[]),(15,false,[16]),(17,true,[])]] ?_;refine cF ?_;refine ao rfl nr rfl (λa d=>du.qs a bu.b8 b.md _ _) ?_;refine ah ?_;refine ao rfl nr rfl (λa d=>du.qs a bu.b8 b.md _ _) ?_;refine ah ?_;refine ao rfl nr rfl (λa d=>du.qs a bu.b8 b.md _ _) ?_;refine b3 (λ_=>True) (λ_ h=> .inr ⟨.inr ⟨.inr h,dp⟩,dp⟩) (λ_ h=>a1) ?_;refine ah ?_;refine vT (k:=0) b ai rfl Fl rfl (λa o x=>IK o b.bk _ _ _) (λV e D f=>?_);refine aJ ?_;exact bi (i+1,V) ⟨aa,e,c.trans f⟩ bm bR (λ_ h=>h);refine ay ?_;intro H E;exact aN bu b E
abbrev JI (m:Nat):Nat:=du.cT (du.cT (du.cT (du.cT m false 4 false) true 6 false) true 7 true) true 25 true
theorem VU {m:Nat} (h:m<4294967296):JI m<4294967296:=du.pm (du.pm (du.pm (du.pm h _ _ _) _ _ _) _ _ _) _ _ _
theorem cp.VV {g:Nat} {R:Int} {m:Nat} {T:bL} (h:cp g R m T) {b:Nat} (a:b<4294967296):cp g R m { T with b8:=b }:=⟨h.am,h.bk,h.room,h.bM,h.cm,h.bf,h.buf,h.aF,a⟩
theorem qv [Inhabited bO] (w:World) (g par:Nat) (X:Chunk) (T:bL) (d:a8 w (bz g par X T)) {R:Int} {m:Nat} (a:cp g R m T) (p:Bool) (n:Int) (b:Bool):
 Calls prog 227 [ptr g,.bool p,.int .i64 n,.bool b].toArray w (hy g par X R m (.tuple #[]) T w):=by
 have e:cp g R m { T with b8:=du.cT T.b8 p n b }:=⟨a.am,a.bk,a.room,a.bM,a.cm,a.bf,a.buf,a.aF,du.pm a.md p n b⟩
 refine bI func227 ntmps227 d ?_;refine aQ ?_;refine ao rfl q7 rfl (λc i=>du.oQ c T.b8 a.md _ _ _) ?_;refine aC ?_;refine gj (T:={ T with b8:=du.cT T.b8 p n b }) rfl w8 rfl (λc o=>yN c g par X _ o e) (λV f=>?_);refine aq ?_;intro j h;exact aN V f h
theorem mm [Inhabited bO] (w:World) (g par:Nat) (X:Chunk) (T:bL) (d:a8 w (bz g par X T)) {R:Int} {m:Nat} (b:cp g R m T):
 Calls prog 221 [ptr g].toArray w (hy g par X R m (.tuple #[]) T w):=by
 refine bI func221 ntmps221 d ?_;refine ah ?_;refine ao rfl fh rfl (λa c=>fk a g par T (c.has aT)) ?_;refine fH (k:=0) b bc rfl ON rfl (λa o x=>Ug o b.am) (λT b ai f=>?_);refine ay ?_;refine ao rfl fh rfl (λa c=>fk a g par T (c.has aT)) ?_;refine ao rfl jf rfl (λa c=>ju a T.am (c.ed (l:=aO T.am) bJ Has.head)) ?_;refine kd (t:=130) (off:=13) ab Ee rfl rfl rfl ?_;refine Ih (t:=4) (off:=2) ab oI rfl rfl rfl ?_;refine gj rfl pP rfl (λa o=>qv a g par X T o b _ _ _) (λT b=>?_);refine aq ?_;intro h e;exact aN T b e
theorem VW [Inhabited bO] (w:World) (g par:Nat) (X:Chunk) (T:bL) (d:a8 w (bz g par X T)) {R:Int} {m:Nat} (b:cp g R m T):
 Calls prog 182 [ptr g].toArray w (hy g par X R m (.tuple #[]) T w):=by
 refine bI func182 ntmps182 d ?_;refine ah ?_;refine ao rfl fh rfl (λa c=>fk a g par T (c.has aT)) ?_;refine fH (k:=0) b bc rfl Ad rfl (λa o x=>Cd o b.am) (λT b ai f=>?_);refine aJ ?_;refine ao rfl q7 rfl (λa c=>du.oQ a _ (by repeat (exact b.md)) _ _ _) ?_;refine ao rfl q7 rfl (λa c=>du.oQ a _ (by repeat (first | exact b.md | apply du.pm)) _ _ _) ?_;refine ao rfl q7 rfl (λa c=>du.oQ a _ (by repeat (first | exact b.md | apply du.pm)) _ _ _) ?_;refine ao rfl q7 rfl (λa c=>du.oQ a _ (by repeat (first | exact b.md | apply du.pm)) _ _ _) ?_;refine aC ?_;refine gj (T:={ T with b8:=JI T.b8 }) rfl w8 rfl (λa o=>yN a g par X _ o (b.VV (VU b.md))) (λT b=>?_);refine aq ?_;intro h e;exact aN T b e
theorem yO [Inhabited bO] (w:World) (g par:Nat) (X:Chunk) (T:bL) (f:a8 w (bz g par X T)) {R:Int} {m:Nat} (a:cp g R m T) (l:m≤900000000000) (c k:Int):
 Calls prog 178 [ptr g,.int .u8 c,.int .i64 k].toArray w (hy g par X R (m+1) (.tuple #[]) T w):=by
 refine bI func178 ntmps178 f ?_;refine al ?_;refine aj (λh=>?_) (λh=>?_);refine aq ?_;refine ao rfl fh rfl (λb d=>fk b g par T (d.has aT)) ?_;refine ar ?_;refine fH (k:=1) a bc rfl oM rfl (λb o x=>pk o a.am (by have:=a.bf;omega) _) (λT a ai i=>?_);refine aq ?_;intro j e;exact aN T (a.mono aa) e;refine aq ?_;refine ao rfl fh rfl (λb d=>fk b g par T (d.has aT)) ?_;refine ar ?_;refine fH (k:=0) a bc rfl Of rfl (λb o x=>T_ o a.am _) (λT a ai i=>?_);refine aq ?_;intro j e;exact aN T (a.mono aa) e
theorem dY.CC {w w':World} {s:bl} {a:List Bool} {e:Ending} (f:a8 w (aO s)) (d:dR s) (b:a.length=s.st.bs.length) (h:cN.eo s.st.g s.st.bs.length s.st.i a w e w'):dY 0 s (.tuple #[]) w e w':=by
 obtain⟨j,k,rfl,l,ai,m,o⟩:=h;refine⟨{ s with st:=⟨s.st.g,a,j⟩ },⟨rfl,rfl,rfl,⟨d.r,k,by rw[b];exact d.n⟩,⟨λw=>⟨w.bD,w.y,w.x,w.top⟩,rfl,rfl,rfl,bW _⟩⟩,rfl,?_⟩;refine (f.start w rfl).ie (c:=s.st.aF) (c':=cN.eH s.st.g a.length j) (bn.tail (bn.tail (bn.tail (bn.tail (bn.tail (bn.tail bn.head)))))) l ?_ ?_ ?_;rw[b];exact ai
 rw[b];exact m
 rw[b];exact o
theorem tU {w:World} {s:bl} (a:a8 w (aO s)):s.st.aF.ch.Nodup:=by
 have h:=a.2
 rw[show aB (aO s)=aB [s.an,s.ap.an,aR (cc s.ap.r),s.ap.s.au,s.ap.s.b9,s.ap.bf.au]++(s.st.aF.ch++[]) from by simp[aB],eu] at h
 exact (fW.1 h).2.1
theorem CD {w:World} {s:bl} (a:a8 w (aO s)):s.st.aF.pred w:=a.1 _ av
theorem JJ [Inhabited bO] {w:World} {s:bl} (a:a8 w (aO s)) (b:dU s) (x:Int) (c: -9223372036854775808≤x∧x≤9223372036854775807):Calls prog 197 [ptr s.st.g,.int .i64 x].toArray w (dY 0 s (.tuple #[]) w):=
 (cN.Hv w s.st.g s.st.bs s.st.i b.g.st (CD a) (tU a) x c).mono (λ_ _ h=>dY.CC a b.g (cN.mU _ _ _) h)
theorem VX [Inhabited bO] {w:World} {s:bl} (a:a8 w (aO s)) (b:dU s) (x:Int) (c: -9223372036854775808≤x∧x≤9223372036854775807):Calls prog 196 [ptr s.st.g,.int .i64 x].toArray w (dY 0 s (.tuple #[]) w):=
 (cN.Hw w s.st.g s.st.bs s.st.i b.g.st (CD a) (tU a) x c).mono (λ_ _ h=>dY.CC a b.g (cN.mU _ _ _) h)
theorem JK [Inhabited bO] {w:World} {s:bl} (b:a8 w (aO s)) (a:dU s):Calls prog 256 [ptr s.st.g].toArray w (dY 0 s (.tuple #[]) w):=
 (cN.AX w s.st.g s.st.bs s.st.i a.g.st (CD b) (tU b) (by have:=a.g.n;have:=a.ok.nums.2.1;omega)).mono (λ_ _ h=>dY.CC b a.g hj h)
theorem JL [Inhabited bO] (w:World) (s:bl) (f:a8 w (aO s)) (e:dU s):Calls prog 317 [ptr s.g].toArray w (dY 0 s (.tuple #[]) w):=by
 refine bI func317 ntmps317 f ?_;refine ah ?_;refine ao rfl w6 rfl (λb a=>yf b s (a.has aT)) ?_;refine al ?_;refine cJ (λb a=>JK a e) (λs1 j=>?_);refine aK ?_;refine b2 (ι:=Nat × bl) (λt=>[(2,ptr s.st.g),(3,.int .i64 (t.1 :Int))]) (λt=>af w (aB (aO s)) (aO t.2)) (λt=>t.1≤2000∧gm 0 s t.2) (λt=>2008 - t.1) ?_ ?_;exact λw' k=>⟨(0,s1),⟨bP _,j⟩,(iK rfl rfl),k⟩
 rintro⟨i,bu⟩ ⟨hi,c⟩;dsimp only at hi c ⊢
 have d:=c.ok e
 have q:=d.g.n
 have a:=d.ok.nums.2.1
 have l:=c.st
 rw[←l];refine ay ?_;refine ao rfl Fq rfl (λb a=>cN.Ho b bu.st.g bu.st.bs.length bu.st.i (cN.gG.of (a.has e4) d.g.st.len)) ?_;refine ah ?_;refine aj (λm=>?_) (λm=>?_);refine aC ?_;refine a6 (l0:=aO bu) ae rfl z8 rfl (λb a=>JJ (a.bo ae) d i aa) (λz o=>?_);refine aK ?_;exact bi (i+8,z) ⟨aa,c.trans o⟩ bm bR (λ_ h=>h);refine ay ?_;intro r p;exact aN bu c p
theorem VY [Inhabited bO] (w:World) (g par:Nat) (X:Chunk) (T:bL) (G:a8 w (bz g par X T)) (P:vR X) {R:Int} {m:Nat} (H:cp g R m T) (Q:m≤900000000000):
 Calls prog 226 [ptr g].toArray w (hy g par X R (m+2) (.tuple #[]) T w):=by
 refine bI func226 ntmps226 G ?_;refine al ?_;refine cx (vs:=[ptr T.b_,ptr T.dP]) Ed rfl rfl rfl (λS e j u I=>e.k6 (sz:=2) (xs:=pj par T) aT rfl j u I) ?_;refine aS ?_;refine b2 (ι:=Nat × bL) (λt=>[(0,ptr g),(7,.agg [ptr T.b_,ptr T.dP].toArray),(8,.int .i64 (t.1 :Int))]) (λt=>af w (aB (bz g par X T)) (bz g par X t.2)) (λt=>t.1≤2∧cp g R (m+t.1) t.2∧kV T t.2) (λt=>2 - t.1) ?_ ?_;exact λw' J=>⟨(0,T),⟨bP _,H,rfl,rfl,rfl⟩,(em rfl rfl rfl),J⟩
 rintro⟨i,bu⟩ ⟨hi,a,c⟩;dsimp only at hi a c ⊢
 have K:i<2→ ∃q,[ptr T.b_,ptr T.dP][i]? = some (ptr q)∧(q=bu.am.g∨q=bu.bk.g):=λf=>by
  rw[c.am,c.bk];rcases JH T with ⟨y,z⟩ | ⟨y,z⟩ <;> (rcases (by omega:i=0∨i=1) with rfl | rfl) <;> simp[y,z]
 refine al ?_;refine aj (λL=>?_) (λL=>?_);obtain⟨q,A,M⟩:=K aa;rcases M with ai | ai
 refine al ?_;refine lT (q:=i) underlying115 q2 rfl rfl rfl aa aa A ?_;refine al ?_;refine fH (k:=0) a ai rfl Ad rfl (λb o x=>Cd o a.am) (λbu a ai l=>?_);refine ay ?_;refine fH (k:=1) a ai rfl oM rfl (λb o x=>pk o a.am (by have:=a.bf;omega) _) (λbu a ai n=>?_);refine ay ?_;refine fH (k:=0) a ai rfl pQ rfl (λb o x=>rD o a.am _ _) (λbu a ai p=>?_);refine aS ?_;refine fH (k:=0) a ai rfl Fk rfl (λb o x=>JL b _ o a.am) (λbu a ai r=>?_);have c:=(((c.trans l).trans n).trans p).trans r
 refine aC ?_;exact bi (i+1,bu) ⟨aa,a.mono aa,c⟩ bm bR (λ_ h=>h);refine al ?_;refine lT (q:=i) underlying115 q2 rfl rfl rfl aa aa A ?_;refine al ?_;refine vT (k:=0) a ai rfl Ad rfl (λb o x=>Cd o a.bk) (λbu a ai l=>?_);refine ay ?_;refine vT (k:=1) a ai rfl oM rfl (λb o x=>pk o a.bk (by have:=a.bf;omega) _) (λbu a ai n=>?_);refine ay ?_;refine vT (k:=0) a ai rfl pQ rfl (λb o x=>rD o a.bk _ _) (λbu a ai p=>?_);refine aS ?_;refine vT (k:=0) a ai rfl Fk rfl (λb o x=>JL b _ o a.bk) (λbu a ai r=>?_);have c:=(((c.trans l).trans n).trans p).trans r
 refine aC ?_;exact bi (i+1,bu) ⟨aa,a.mono aa,c⟩ bm bR (λ_ h=>h);obtain⟨am,bk,use,b8,cm,bM,buf,aF⟩:=bu;have N:=a.mono (k:=m+2) aa
 obtain⟨e,f,B,C,U,D,E,F,W⟩:=N;cases use with
 | false=>
  refine aQ ?_;refine ao rfl zQ rfl (λb d=>du.vm b) ?_;refine bH ?_;refine a6 (l0:=bz g par X ⟨am,bk,false,du.pn,[],bM,buf,aF⟩) ae rfl w8 rfl (λb d=>yN b g par X _ (d.bo ae) (R:=R) (m:=m+2) ⟨e,f,B,C,by simp,D,E,F,show du.pn<4294967296 by decide⟩) (λV s=>?_);refine aq ?_;intro O v;exact aN V s v
 | true=>
  refine aQ ?_;refine ao rfl zQ rfl (λb d=>du.vm b) ?_;refine bH ?_;refine a6 (l0:=bz g par X ⟨bk,am,false,du.pn,[],bM,buf,aF⟩) ae rfl w8 rfl (λb d=>yN b g par X _ (d.bo ae) (R:=R) (m:=m+2) ⟨f,e,B,C,by simp,by dsimp only at D ⊢;omega,E,F,show du.pn<4294967296 by decide⟩) (λV s=>?_);refine aq ?_;intro O v;exact aN V s v
theorem tV (n:Nat) (h:n≤1001): (Lib.decDigits n).length≤21:=cU.IQ aa
theorem VZ [Inhabited bO] (p:Bool) (y x:Int): (cU.yw p (cU.e0 y) (cU.e0 x)).length≤1000:=by
 have a:=tV (cU.e0 y+1) (by have:=cU.mf y;omega)
 have b:=tV (cU.e0 x+1) (by have:=cU.mf x;omega)
 unfold cU.yw;cases p <;> simp <;> omega
theorem JM [Inhabited bO] (w:World) (g par:Nat) (X:Chunk) (T:bL) (h:a8 w (bz g par X T)) (e:vR X) {R:Int} {m:Nat} (c:cp g R m T) (q:m≤900000000000) (p:Bool):
 Calls prog 177 [ptr g,.bool p].toArray w (hy g par X R (m+1000) (.tuple #[]) T w):=by
 have f:=VZ p
 have r:0≤T.am.y∧T.am.y≤1000:=by have i:=c.am.ok.y;have j:=tl c.am.ok;simp only[bl.abs,be.rows] at *;omega
 have s:0≤T.am.top∧T.am.top≤1000:=by have i:=c.am.ok.top;have j:=tl c.am.ok;simp only[bl.abs,be.rows] at *;omega
 refine bI func177 ntmps177 h ?_;refine ah ?_;refine ao rfl fh rfl (λa b=>fk a g par T (b.has aT)) ?_;refine ao rfl jf rfl (λa b=>ju a T.am (b.ed (l:=aO T.am) bJ Has.head)) ?_;refine ar ?_;intro t u v;refine e3 zH rfl rfl (by rw[B2];exact bn.head) rfl (aI.cons rfl (aI.cons rfl (aI.cons rfl (aI.cons rfl (aI.cons rfl (aI.cons rfl (aI.cons rfl (aI.cons rfl (aI.cons rfl (gg rfl rfl rfl rfl rfl rfl rfl rfl rfl rfl)))))))))) (by exact dV rfl) ?_;refine eR ?_;refine b1 rfl (λk=>?_) (λk=>?_);refine bx ?_;refine ao rfl q9 rfl (λa b=>rL a g par T (b.has bJ) (b.ed (l:=aO T.am) cr Has.head) (b.ed (l:=aO T.am) cr (Has.tail Has.head)) c.am.ok.nums.2.1) ?_;refine ar ?_;refine ao rfl E4 rfl (λa b=>cU.IX a (e a (b.has e4)).it _ _ _) ?_;refine hg rfl nt rfl (λa o=>n_ a g par X T o c _ aa (by apply f)) (λT c=>?_);refine aq ?_;intro n d;exact aN T (c.mono aa) d;refine al ?_;refine ao rfl q9 rfl (λa b=>rL a g par T (b.has bJ) (b.ed (l:=aO T.am) cr Has.head) (b.ed (l:=aO T.am) cr (Has.tail Has.head)) c.am.ok.nums.2.1) ?_;refine ar ?_;refine ao rfl E4 rfl (λa b=>cU.IX a (e a (b.has e4)).it _ _ _) ?_;refine hg rfl nt rfl (λa o=>n_ a g par X T o c _ aa (by apply f)) (λT c=>?_);refine aq ?_;intro n d;exact aN T (c.mono aa) d
theorem V0 [Inhabited bO] (w:World) (g par:Nat) (X:Chunk) (T:bL) (y:a8 w (bz g par X T)) (q:vR X) {R:Int} {m:Nat} (a:cp g R m T) (I:m≤900000000000) (c:Int):
 Calls prog 172 [ptr g,ptr T.am.g,.int .u8 c].toArray w (hy g par X R (m+1000) (.tuple #[]) T w):=by
 refine bI func172 ntmps172 y ?_;refine bx ?_;refine aj (λz=>?_) (λz=>?_);refine aq ?_;refine fH (k:=0) a bc rfl sC rfl (λb o x=>tH o a.am) (λT a ai h=>?_);refine ah ?_;intro f d;exact aN T (a.mono aa) d;refine al ?_;refine aj (λaH=>?_) (λaH=>?_);refine aq ?_;refine gj rfl lS rfl (λb o=>mm b g par X T o a) (λT a=>?_);refine ah ?_;intro f d;exact aN T (a.mono aa) d;refine al ?_;refine aj (λA=>?_) (λA=>?_);refine aq ?_;refine fH (k:=2) a bc rfl uK rfl (λb o x=>II o a.am (by have:=a.bf;omega)) (λT a ai h=>?_);refine ah ?_;intro f d;exact aN T (a.mono aa) d;refine al ?_;refine aj (λB=>?_) (λB=>?_);refine ah ?_;refine fH (k:=2) a bc rfl uK rfl (λb o x=>II o a.am (by have:=a.bf;omega)) (λT a ai h=>?_);refine aS ?_;refine fH (k:=0) a ai rfl q8 rfl (λb o x=>tG o a.am) (λT a ai h=>?_);refine ah ?_;intro f d;exact aN T (a.mono aa) d;refine al ?_;refine aj (λC=>?_) (λC=>?_);refine aq ?_;refine fH (k:=2) a bc rfl Ob rfl (λb o x=>Uh o a.am (by have:=a.bf;omega)) (λT a ai h=>?_);refine ah ?_;intro f d;exact aN T (a.mono aa) d;refine al ?_;refine aj (λD=>?_) (λD=>?_);refine aq ?_;refine ao rfl w6 rfl (λb e=>yf b T.am (e.ed (l:=aO T.am) bJ Has.head)) ?_;refine ar ?_;refine ao rfl q9 rfl (λb e=>rL b g par T (e.has aT) (e.ed (l:=aO T.am) bJ Has.head) (e.ed (l:=aO T.am) bJ (Has.tail Has.head)) a.am.ok.nums.2.1) ?_;refine VT (k:=0) a rfl z8 rfl (λb o x=>JJ o a.am _ (by have:=a.am.ok.nums;omega)) (λT a h=>?_);refine ah ?_;intro f d;exact aN T (a.mono aa) d;refine al ?_;refine aj (λE=>?_) (λE=>?_);refine aq ?_;refine ao rfl E2 rfl (λb e=>cU.IY b (q b (e.has kz)).it) ?_;refine gj rfl nt rfl (λb o=>n_ b g par X T o a _ aa aZ) (λT a=>?_);refine ah ?_;intro f d;exact aN T (a.mono aa) d;refine al ?_;refine aj (λF=>?_) (λF=>?_);refine aq ?_;refine gj rfl Oc rfl (λb o=>VY b g par X T o q a aa) (λT a=>?_);refine ah ?_;intro f d;exact aN T (a.mono aa) d;refine aC ?_;refine aj (λi=>?_) (λi=>?_);have r:=i
 refine aq ?_;refine eE rfl ((bX r)) ?_;refine aS ?_;refine gj rfl pP rfl (λb o=>qv b g par X T o a _ _ _) (λT a=>?_);refine ah ?_;intro f d;exact aN T (a.mono aa) d;have r:=i
 refine ay ?_;refine aj (λG=>?_) (λG=>?_);refine aS ?_;refine gj rfl pP rfl (λb o=>qv b g par X T o a _ _ _) (λT a=>?_);refine ah ?_;intro f d;exact aN T (a.mono aa) d;refine aC ?_;refine aj (λj=>?_) (λj=>?_);have s:=j
 refine aq ?_;refine eE rfl ((bX s)) ?_;refine ah ?_;refine ao rfl jf rfl (λb e=>ju b T.am (e.ed (l:=aO T.am) bJ Has.head)) ?_;refine kd (t:=128) (off:=7) ab lR rfl rfl rfl ?_;refine ar ?_;refine ao rfl w7 rfl (λb e=>ye b ⟨_,_,_,_,_,_⟩ _) ?_;refine fH (k:=0) a bc rfl ns rfl (λb o x=>n3 o a.am ⟨_,_,_,_,_,_⟩) (λT a ai h=>?_);refine ah ?_;intro f d;exact aN T (a.mono aa) d;have s:=j
 refine al ?_;refine aj (λn=>?_) (λn=>?_);have u:=n
 refine aq ?_;refine eE rfl ((bX u)) ?_;refine ah ?_;refine ao rfl jf rfl (λb e=>ju b T.am (e.ed (l:=aO T.am) bJ Has.head)) ?_;refine kd (t:=128) (off:=7) ab lR rfl rfl rfl ?_;refine ar ?_;refine ao rfl w7 rfl (λb e=>ye b ⟨_,_,_,_,_,_⟩ _) ?_;refine fH (k:=0) a bc rfl ns rfl (λb o x=>n3 o a.am ⟨_,_,_,_,_,_⟩) (λT a ai h=>?_);refine ah ?_;intro f d;exact aN T (a.mono aa) d;have u:=n
 refine al ?_;refine aj (λp=>?_) (λp=>?_);have v:=p
 refine aq ?_;refine eE rfl ((bX v)) ?_;refine ah ?_;refine ao rfl jf rfl (λb e=>ju b T.am (e.ed (l:=aO T.am) bJ Has.head)) ?_;refine kd (t:=128) (off:=7) ab lR rfl rfl rfl ?_;refine ar ?_;refine ao rfl w7 rfl (λb e=>ye b ⟨_,_,_,_,_,_⟩ _) ?_;refine fH (k:=0) a bc rfl ns rfl (λb o x=>n3 o a.am ⟨_,_,_,_,_,_⟩) (λT a ai h=>?_);refine ah ?_;intro f d;exact aN T (a.mono aa) d;have v:=p
 refine ay ?_;refine aj (λH=>?_) (λH=>?_);refine ah ?_;refine ao rfl jf rfl (λb e=>ju b T.am (e.ed (l:=aO T.am) bJ Has.head)) ?_;refine kd (t:=128) (off:=7) ab lR rfl rfl rfl ?_;refine ar ?_;refine ao rfl w7 rfl (λb e=>ye b ⟨_,_,_,_,_,_⟩ _) ?_;refine fH (k:=0) a bc rfl ns rfl (λb o x=>n3 o a.am ⟨_,_,_,_,_,_⟩) (λT a ai h=>?_);refine ah ?_;intro f d;exact aN T (a.mono aa) d;refine ah ?_;intro f d;exact aN T (a.mono aa) d
section
section
variable {P:Program} {n:Nat} {ops:Array Oper} {Q:cq} {rest:List Oper} {l:Fr} {d:Nat} {ty:TypeId} {pos:String} {a7:Array Edge}
variable {b:World} {S:List Nat} {args:List Operand} {db:Array TypeId} {f:FuncId} {vs:List Value} {v:Value} {g par k m p:Nat} {R:Int} {T:bL} {X:Chunk}
theorem tW (e:cp g R m T) (ak:Nat.blt d n=true) (i:ad P f) (j:cI l args=some vs)
 (o: ∀w,af b S (bz g par X T) w→Calls P f vs.toArray w (dY k T.am v w))
 (h: ∀bu:bL,cp g R (m+k) bu→kV T bu→az P n ops Q rest ((d,v)::l) (af b S (bz g par X bu))):
 az P n ops Q (⟨some d,.call ⟨.value (.func f),args.toArray,db⟩,ty,pos,a7,none⟩::rest) l (af b S (bz g par X T)):=by
 refine kM (l0:=aO T.am) (l':=aO) (cs1:=λz=>[eN g par T,aR (aO z),aR (aO T.bk),T.buf.au,T.aF.au,X]) (λz=>bn.tail bn.head) ak i j o (λz a=>?_);have c:=h { T with am:=z } (e.rB a) ⟨rfl,a.g,rfl⟩
 simp only[bz] at c
 rw[rC a.g] at c
 exact c
theorem apart {w:World} (h:af b S (bz g par X T) w) {x:Nat} (c:x∈aB (aO T.bk)):x∉aB (aO T.am):=λd=>by
 have a:=h.nodup
 rw[show aB (bz g par X T)=(eN g par T).ch++(aB (aO T.am)++(aB (aO T.bk)++aB [T.buf.au,T.aF.au,X])) from by simp[aB,aR]] at a
 exact (fW.1 (fW.1 a).2.1).2.2 x d x (oq _ c) rfl
end
theorem tX [Inhabited bO] {w b:World} {S:List Nat} {g par:Nat} {X:Chunk} {T:bL} {R:Int} {m q:Nat} (a:cp g R m T) (c:q=T.bk.g) (h:af b S (bz g par X T) w):Calls prog 388 [ptr T.am.g,ptr q].toArray w (dY 0 T.am (.tuple #[]) w):=by
 subst c;exact TV w T.am T.bk (h.kL (Has.tail Has.head)) a.am.g a.am.ok.bD (h.ed (l:=aO T.bk) cr Has.head) (h.ed (l:=aO T.bk) cr (Has.tail Has.head)) a.bk.ok.nums.2.1 (apart h (by simp[aB,bl.an,aD])) (apart h (by simp[aB,bl.an,aD]))
theorem cp.swap {g:Nat} {R:Int} {m:Nat} {am bk:bl} {use:Bool} {b8:Nat} {cm:List UInt8} {bM:Option Addr} {buf:is} {aF:n1} (h:cp g R m ⟨am,bk,use,b8,cm,bM,buf,aF⟩):cp g R m ⟨bk,am,!use,b8,cm,bM,buf,aF⟩:=by
 refine⟨h.bk,h.am,?_,h.bM,h.cm,?_,h.buf,h.aF,h.md⟩
 ·have:=h.room
  cases use <;> exact this
 ·have:=h.bf
  dsimp only at this ⊢
  omega
theorem CE [Inhabited bO] (w:World) (g par:Nat) (X:Chunk) (T:bL) (s:a8 w (bz g par X T)) {R:Int} {m:Nat} (a:cp g R m T) (J:m≤900000000000) (t u:Bool):
 Calls prog 327 [ptr g,.bool t,.bool u].toArray w (hy g par X R (m+1) (.tuple #[]) T w):=by
 obtain⟨am,bk,use,b8,cm,bM,buf,aF⟩:=T;refine bI func327 ntmps327 s ?_;cases use with
 | false=>
  refine aJ ?_;refine zw underlying4 rfl rfl rfl ?_;refine aq ?_;refine aj (λy=>?_) (λy=>?_)
  ·skip
   refine ah ?_;intro e c;exact aP.bQ ⟨am,bk,_,b8,cm,bM,buf,aF⟩ (a.mono aa) rfl (c.ax ae)
  ·skip
   refine ay ?_;refine ao rfl fh rfl (λb d=>fk b g par _ (d.has aT)) ?_;refine aK ?_;refine aW 17 rfl (λaH=>?_) (λaH=>?_)
   ·skip
    refine ay ?_;refine b1 rfl (λz=>?_) (λz=>?_)
    ·skip
     refine aq ?_;refine fH (k:=0) a rfl rfl sC rfl (λb o x=>tH o a.am) (λ⟨am,bk,use,b8,cm,bM,buf,aF⟩ a ai f=>?_);obtain rfl:use=false:=f.use
     refine aK ?_;refine a_ (v:= .int .i64 0) bN rfl rfl (λi h=>h.eP aT rfl) ?_;refine aS ?_;have a:=a.swap
     refine gR (H':=af w _ (bz g par X ⟨bk,am,true,b8,cm,bM,buf,aF⟩)) ?_ (Sub.refl _) (λ_ c=>c.ax ae);refine ay ?_;refine ao rfl fh rfl (λb d=>fk b g par _ (d.has aT)) ?_;refine ar ?_;refine tW (k:=0) a rfl sI rfl (λb d=>tX a ai d) (λT a f=>?_);refine aJ ?_;refine b1 rfl (λj=>?_) (λj=>?_)
     ·simp only[bZ] at j
      refine ah ?_;intro e c;exact aN T (a.mono aa) c
     ·simp only[bZ] at j
      refine aC ?_;refine b1 rfl (λA=>?_) (λA=>?_)
      ·skip
       refine aq ?_;refine ao rfl fh rfl (λb d=>fk b g par _ (d.has aT)) ?_;refine fH (k:=1) a bc rfl oM rfl (λb o x=>pk o a.am (by have:=a.bf;omega) _) (λT a ai f=>?_);refine aq ?_;intro e c;exact aN T (a.mono aa) c
      ·skip
       refine aq ?_;refine gj rfl lS rfl (λb o=>mm b g par X T o a) (λT a=>?_);refine aq ?_;intro e c;exact aN T (a.mono aa) c
    ·skip
     refine aK ?_;refine a_ (v:= .int .i64 0) bN rfl rfl (λi h=>h.eP aT rfl) ?_;refine aS ?_;have a:=a.swap
     refine gR (H':=af w _ (bz g par X ⟨bk,am,true,b8,cm,bM,buf,aF⟩)) ?_ (Sub.refl _) (λ_ c=>c.ax ae);refine ay ?_;refine ao rfl fh rfl (λb d=>fk b g par _ (d.has aT)) ?_;refine ar ?_;refine tW (k:=0) a rfl sI rfl (λb d=>tX a bc d) (λT a f=>?_);refine aJ ?_;refine b1 rfl (λl=>?_) (λl=>?_)
     ·simp only[bZ] at l
      refine ah ?_;intro e c;exact aN T (a.mono aa) c
     ·simp only[bZ] at l
      refine aC ?_;refine b1 rfl (λB=>?_) (λB=>?_)
      ·skip
       refine aq ?_;refine ao rfl fh rfl (λb d=>fk b g par _ (d.has aT)) ?_;refine fH (k:=1) a bc rfl oM rfl (λb o x=>pk o a.am (by have:=a.bf;omega) _) (λT a ai f=>?_);refine aq ?_;intro e c;exact aN T (a.mono aa) c
      ·skip
       refine aq ?_;refine gj rfl lS rfl (λb o=>mm b g par X T o a) (λT a=>?_);refine aq ?_;intro e c;exact aN T (a.mono aa) c
   ·skip
    refine bH ?_;refine a_ (v:= .int .i64 0) bN rfl rfl (λi h=>h.eP aT rfl) ?_;refine aS ?_;have a:=a.swap
    refine gR (H':=af w _ (bz g par X ⟨bk,am,true,b8,cm,bM,buf,aF⟩)) ?_ (Sub.refl _) (λ_ c=>c.ax ae);refine ay ?_;refine ao rfl fh rfl (λb d=>fk b g par _ (d.has aT)) ?_;refine ar ?_;refine tW (k:=0) a rfl sI rfl (λb d=>tX a bc d) (λT a f=>?_);refine aJ ?_;refine b1 rfl (λn=>?_) (λn=>?_)
    ·simp only[bZ] at n
     refine ah ?_;intro e c;exact aN T (a.mono aa) c
    ·simp only[bZ] at n
     refine aC ?_;refine b1 rfl (λC=>?_) (λC=>?_)
     ·skip
      refine aq ?_;refine ao rfl fh rfl (λb d=>fk b g par _ (d.has aT)) ?_;refine fH (k:=1) a bc rfl oM rfl (λb o x=>pk o a.am (by have:=a.bf;omega) _) (λT a ai f=>?_);refine aq ?_;intro e c;exact aN T (a.mono aa) c
     ·skip
      refine aq ?_;refine gj rfl lS rfl (λb o=>mm b g par X T o a) (λT a=>?_);refine aq ?_;intro e c;exact aN T (a.mono aa) c
 | true=>
  refine aJ ?_;refine zw underlying4 rfl rfl rfl ?_;refine aq ?_;refine aj (λD=>?_) (λD=>?_)
  ·skip
   refine ah ?_;intro e c;exact aP.bQ ⟨am,bk,_,b8,cm,bM,buf,aF⟩ (a.mono aa) rfl (c.ax ae)
  ·skip
   refine ay ?_;refine ao rfl fh rfl (λb d=>fk b g par _ (d.has aT)) ?_;refine aK ?_;refine aW 17 rfl (λE=>?_) (λE=>?_)
   ·skip
    refine ay ?_;refine b1 rfl (λF=>?_) (λF=>?_)
    ·skip
     refine aq ?_;refine fH (k:=0) a rfl rfl sC rfl (λb o x=>tH o a.am) (λ⟨am,bk,use,b8,cm,bM,buf,aF⟩ a ai f=>?_);obtain rfl:use=true:=f.use
     refine aK ?_;refine a_ (v:= .int .i64 1) bN rfl rfl (λi h=>h.eP aT rfl) ?_;refine aS ?_;have a:=a.swap
     refine gR (H':=af w _ (bz g par X ⟨bk,am,false,b8,cm,bM,buf,aF⟩)) ?_ (Sub.refl _) (λ_ c=>c.ax ae);refine ay ?_;refine ao rfl fh rfl (λb d=>fk b g par _ (d.has aT)) ?_;refine ar ?_;refine tW (k:=0) a rfl sI rfl (λb d=>tX a ai d) (λT a f=>?_);refine aJ ?_;refine b1 rfl (λp=>?_) (λp=>?_)
     ·simp only[bZ] at p
      refine ah ?_;intro e c;exact aN T (a.mono aa) c
     ·simp only[bZ] at p
      refine aC ?_;refine b1 rfl (λG=>?_) (λG=>?_)
      ·skip
       refine aq ?_;refine ao rfl fh rfl (λb d=>fk b g par _ (d.has aT)) ?_;refine fH (k:=1) a bc rfl oM rfl (λb o x=>pk o a.am (by have:=a.bf;omega) _) (λT a ai f=>?_);refine aq ?_;intro e c;exact aN T (a.mono aa) c
      ·skip
       refine aq ?_;refine gj rfl lS rfl (λb o=>mm b g par X T o a) (λT a=>?_);refine aq ?_;intro e c;exact aN T (a.mono aa) c
    ·skip
     refine aK ?_;refine a_ (v:= .int .i64 1) bN rfl rfl (λi h=>h.eP aT rfl) ?_;refine aS ?_;have a:=a.swap
     refine gR (H':=af w _ (bz g par X ⟨bk,am,false,b8,cm,bM,buf,aF⟩)) ?_ (Sub.refl _) (λ_ c=>c.ax ae);refine ay ?_;refine ao rfl fh rfl (λb d=>fk b g par _ (d.has aT)) ?_;refine ar ?_;refine tW (k:=0) a rfl sI rfl (λb d=>tX a bc d) (λT a f=>?_);refine aJ ?_;refine b1 rfl (λq=>?_) (λq=>?_)
     ·simp only[bZ] at q
      refine ah ?_;intro e c;exact aN T (a.mono aa) c
     ·simp only[bZ] at q
      refine aC ?_;refine b1 rfl (λH=>?_) (λH=>?_)
      ·skip
       refine aq ?_;refine ao rfl fh rfl (λb d=>fk b g par _ (d.has aT)) ?_;refine fH (k:=1) a bc rfl oM rfl (λb o x=>pk o a.am (by have:=a.bf;omega) _) (λT a ai f=>?_);refine aq ?_;intro e c;exact aN T (a.mono aa) c
      ·skip
       refine aq ?_;refine gj rfl lS rfl (λb o=>mm b g par X T o a) (λT a=>?_);refine aq ?_;intro e c;exact aN T (a.mono aa) c
   ·skip
    refine bH ?_;refine a_ (v:= .int .i64 1) bN rfl rfl (λi h=>h.eP aT rfl) ?_;refine aS ?_;have a:=a.swap
    refine gR (H':=af w _ (bz g par X ⟨bk,am,false,b8,cm,bM,buf,aF⟩)) ?_ (Sub.refl _) (λ_ c=>c.ax ae);refine ay ?_;refine ao rfl fh rfl (λb d=>fk b g par _ (d.has aT)) ?_;refine ar ?_;refine tW (k:=0) a rfl sI rfl (λb d=>tX a bc d) (λT a f=>?_);refine aJ ?_;refine b1 rfl (λr=>?_) (λr=>?_)
    ·simp only[bZ] at r
     refine ah ?_;intro e c;exact aN T (a.mono aa) c
    ·simp only[bZ] at r
     refine aC ?_;refine b1 rfl (λI=>?_) (λI=>?_)
     ·skip
      refine aq ?_;refine ao rfl fh rfl (λb d=>fk b g par _ (d.has aT)) ?_;refine fH (k:=1) a bc rfl oM rfl (λb o x=>pk o a.am (by have:=a.bf;omega) _) (λT a ai f=>?_);refine aq ?_;intro e c;exact aN T (a.mono aa) c
     ·skip
      refine aq ?_;refine gj rfl lS rfl (λb o=>mm b g par X T o a) (λT a=>?_);refine aq ?_;intro e c;exact aN T (a.mono aa) c
theorem V1 [Inhabited bO] (w:World) (g par:Nat) (X:Chunk) (T:bL) (C:a8 w (bz g par X T)) {R:Int} {m:Nat} (a:cp g R m T) (U:m≤900000000000) (p:Bool) (n:Int) (v:Bool):
 Calls prog 236 [ptr g,.bool p,.int .i64 n,.bool v].toArray w (hy g par X R (m+1) (.tuple #[]) T w):=by
 refine bI func236 ntmps236 C ?_;refine ay ?_;refine aW 11 rfl (λD=>?_) (λD=>?_);refine al ?_;refine aW 14 rfl (λE=>?_) (λE=>?_);refine kA ?_;refine b2 (ι:=Nat × bL) (λt=>[(0,ptr g),(2,.int .i64 n),(3,.bool v),(23,.agg [.int .i64 47,.int .i64 1047,.int .i64 1049].toArray),(24,.int .i64 (t.1 :Int))]) (λt=>af w (aB (bz g par X T)) (bz g par X t.2)) (λt=>t.1≤3∧cp g R m t.2) (λt=>3 - t.1) ?_ ?_;exact λw' f=>⟨(0,T),⟨bP _,a⟩,(ec rfl rfl rfl rfl rfl),f⟩
 rintro⟨i,T⟩ ⟨hi,a⟩;dsimp only at hi a ⊢
 have j:i<3→ ∃q:Int,[Value.int .i64 47,.int .i64 1047,.int .i64 1049][i]? = some (.int .i64 q):=λB=>by
  rcases (by omega:i=0∨i=1∨i=2) with rfl | rfl | rfl <;> exact⟨_,rfl⟩
 refine al ?_;refine aj (λl=>?_) (λl=>?_);obtain⟨q,r⟩:=j aa;refine al ?_;refine lT (q:=i) underlying371 bN rfl rfl rfl aa aa r ?_;refine aC ?_;refine gj rfl pP rfl (λb o=>qv b g par X T o a _ _ _) (λT a=>?_);refine aC ?_;exact bi (i+1,T) ⟨aa,a⟩ bm bR (λ_ h=>h);refine bp ?_;refine gj rfl Ai rfl (λb o=>CE b g par X T o a aa _ _) (λT a=>?_);refine ay ?_;intro d c;exact aN T (a.mono aa) c;refine aK ?_;refine aW 18 rfl (λF=>?_) (λF=>?_);refine dB ?_;refine b2 (ι:=Nat × bL) (λt=>[(0,ptr g),(2,.int .i64 n),(3,.bool v),(23,.agg [.int .i64 47,.int .i64 1047,.int .i64 1049].toArray),(24,.int .i64 (t.1 :Int))]) (λt=>af w (aB (bz g par X T)) (bz g par X t.2)) (λt=>t.1≤3∧cp g R m t.2) (λt=>3 - t.1) ?_ ?_;exact λw' f=>⟨(0,T),⟨bP _,a⟩,(ec rfl rfl rfl rfl rfl),f⟩
 rintro⟨i,T⟩ ⟨hi,a⟩;dsimp only at hi a ⊢
 have j:i<3→ ∃q:Int,[Value.int .i64 47,.int .i64 1047,.int .i64 1049][i]? = some (.int .i64 q):=λB=>by
  rcases (by omega:i=0∨i=1∨i=2) with rfl | rfl | rfl <;> exact⟨_,rfl⟩
 refine al ?_;refine aj (λl=>?_) (λl=>?_);obtain⟨q,r⟩:=j aa;refine al ?_;refine lT (q:=i) underlying371 bN rfl rfl rfl aa aa r ?_;refine aC ?_;refine gj rfl pP rfl (λb o=>qv b g par X T o a _ _ _) (λT a=>?_);refine aC ?_;exact bi (i+1,T) ⟨aa,a⟩ bm bR (λ_ h=>h);refine bp ?_;refine gj rfl Ai rfl (λb o=>CE b g par X T o a aa _ _) (λT a=>?_);refine ay ?_;intro d c;exact aN T (a.mono aa) c;refine aJ ?_;refine aj (λG=>?_) (λG=>?_);refine aK ?_;refine b2 (ι:=Nat × bL) (λt=>[(0,ptr g),(2,.int .i64 n),(3,.bool v),(23,.agg [.int .i64 47,.int .i64 1047,.int .i64 1049].toArray),(24,.int .i64 (t.1 :Int))]) (λt=>af w (aB (bz g par X T)) (bz g par X t.2)) (λt=>t.1≤3∧cp g R m t.2) (λt=>3 - t.1) ?_ ?_;exact λw' f=>⟨(0,T),⟨bP _,a⟩,(ec rfl rfl rfl rfl rfl),f⟩
 rintro⟨i,T⟩ ⟨hi,a⟩;dsimp only at hi a ⊢
 have j:i<3→ ∃q:Int,[Value.int .i64 47,.int .i64 1047,.int .i64 1049][i]? = some (.int .i64 q):=λB=>by
  rcases (by omega:i=0∨i=1∨i=2) with rfl | rfl | rfl <;> exact⟨_,rfl⟩
 refine al ?_;refine aj (λl=>?_) (λl=>?_);obtain⟨q,r⟩:=j aa;refine al ?_;refine lT (q:=i) underlying371 bN rfl rfl rfl aa aa r ?_;refine aC ?_;refine gj rfl pP rfl (λb o=>qv b g par X T o a _ _ _) (λT a=>?_);refine aC ?_;exact bi (i+1,T) ⟨aa,a⟩ bm bR (λ_ h=>h);refine bp ?_;refine gj rfl Ai rfl (λb o=>CE b g par X T o a aa _ _) (λT a=>?_);refine ay ?_;intro d c;exact aN T (a.mono aa) c;refine aK ?_;refine gj rfl pP rfl (λb o=>qv b g par X T o a _ _ _) (λT a=>?_);refine aQ ?_;refine b1 rfl (λs=>?_) (λs=>?_);have H:=s
 simp only[bZ] at s
 refine ah ?_;intro d c;exact aN T (a.mono aa) c;have H:=s
 simp only[bZ] at s
 refine aC ?_;refine aj (λaH=>?_) (λaH=>?_);refine aq ?_;refine ao rfl fh rfl (λb e=>fk b g par T (e.has aT)) ?_;refine fH (k:=0) a bc rfl pQ rfl (λb o x=>rD o a.am _ _) (λT a ai y=>?_);refine ah ?_;intro d c;exact aN T (a.mono aa) c;refine ay ?_;refine aW 54 rfl (λz=>?_) (λz=>?_);have I:=aX z
 refine al ?_;refine b1 rfl (λJ=>?_) (λJ=>?_);refine aq ?_;refine ao rfl fh rfl (λb e=>fk b g par T (e.has aT)) ?_;refine fH (k:=0) a bc rfl sC rfl (λb o x=>tH o a.am) (λT a ai y=>?_);refine ah ?_;intro d c;exact aN T (a.mono aa) c;refine aC ?_;refine aj (λK=>?_) (λK=>?_);refine aq ?_;refine gj rfl lS rfl (λb o=>mm b g par X T o a) (λT a=>?_);refine ah ?_;intro d c;exact aN T (a.mono aa) c;refine ah ?_;intro d c;exact aN T (a.mono aa) c;have I:=bd z
 refine bH ?_;refine aj (λL=>?_) (λL=>?_);refine aq ?_;refine gj rfl lS rfl (λb o=>mm b g par X T o a) (λT a=>?_);refine ah ?_;intro d c;exact aN T (a.mono aa) c;refine ah ?_;intro d c;exact aN T (a.mono aa) c;refine kA ?_;refine gj rfl pP rfl (λb o=>qv b g par X T o a _ _ _) (λT a=>?_);refine aQ ?_;refine b1 rfl (λu=>?_) (λu=>?_);have M:=u
 simp only[bZ] at u
 refine ah ?_;intro d c;exact aN T (a.mono aa) c;have M:=u
 simp only[bZ] at u
 refine aC ?_;refine aj (λN=>?_) (λN=>?_);refine aq ?_;refine ao rfl fh rfl (λb e=>fk b g par T (e.has aT)) ?_;refine fH (k:=0) a bc rfl pQ rfl (λb o x=>rD o a.am _ _) (λT a ai y=>?_);refine ah ?_;intro d c;exact aN T (a.mono aa) c;refine ay ?_;refine aW 54 rfl (λA=>?_) (λA=>?_);have O:=aX A
 refine al ?_;refine b1 rfl (λP=>?_) (λP=>?_);refine aq ?_;refine ao rfl fh rfl (λb e=>fk b g par T (e.has aT)) ?_;refine fH (k:=0) a bc rfl sC rfl (λb o x=>tH o a.am) (λT a ai y=>?_);refine ah ?_;intro d c;exact aN T (a.mono aa) c;refine aC ?_;refine aj (λQ=>?_) (λQ=>?_);refine aq ?_;refine gj rfl lS rfl (λb o=>mm b g par X T o a) (λT a=>?_);refine ah ?_;intro d c;exact aN T (a.mono aa) c;refine ah ?_;intro d c;exact aN T (a.mono aa) c;have O:=bd A
 refine bH ?_;refine aj (λS=>?_) (λS=>?_);refine aq ?_;refine gj rfl lS rfl (λb o=>mm b g par X T o a) (λT a=>?_);refine ah ?_;intro d c;exact aN T (a.mono aa) c;refine ah ?_;intro d c;exact aN T (a.mono aa) c
end
end Go.Proofs.YtlgnfdodnhokjaaGreatDoor.Mq
