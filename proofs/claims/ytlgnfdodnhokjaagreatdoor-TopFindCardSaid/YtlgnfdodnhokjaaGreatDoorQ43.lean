/- part 43 of the proof -/
import Derived.Test.YtlgnfdodnhokjaaGreatDoorQ42
import Derived.Test.YtlgnfdodnhokjaaGreatDoorRows
import Derived.Lib.LaidTab
import Derived.Stop.LaidErr
import Derived.MakeChecks
import Derived.Look8
namespace Go.Proofs.YtlgnfdodnhokjaaGreatDoor.Mq
open Go Go.RowKit Go.Proofs Tryz
theorem aal [Inhabited bO] (w:World) (k:a8 w [ei]) (a b c d e:Int) (l:0≤a∧a≤255) (m:0≤b∧b≤255) (n:0≤c∧c≤255) (ak:0≤d∧d≤255) (p:0≤e∧e≤255):Calls prog 6 [.agg [.int .u8 a,.int .u8 b,.int .u8 c,.int .u8 d,.int .u8 e].toArray].toArray w
 (aP (λi:bV=>ptr i.g) [ei] (λi=>[cn i]) (λi=>cQ i 0 0) w):=by
 refine bI func6 ntmps6 k ?_;refine ah ?_;intro r s t;refine al ?_;refine ao rfl MO rfl (λf u=>aai f a b c d e l m n ak p) ?_;refine a6 (l0:=[ei]) ae rfl En rfl (λf o=>Lk f (o.bo ae) _ _ _ _ _ _ aa aa aa aa aa aa) (λi hi=>?_);refine b7 ?_;refine aj (λh=>?_) (λh=>?_);refine aK ?_;intro q j;exact absurd h aZ;refine aQ ?_;intro q j;exact aN i hi.ok j
structure StepV where
 k:Int
 a:Int
 b:Int
 s:List UInt8
abbrev StepV.enc (x:StepV):List Value:=[.int .i64 x.k,.int .i64 x.a,.int .i64 x.b,.string (bs x.s)]
def EStep:bA StepV:=⟨StepV.enc,4,λ_=>rfl,λ_=>by repeat (first | exact aI.nil | refine aI.cons rfl ?_)⟩
def iz (l:List StepV):Nat:=(l.map (λx=>x.s.length)).sum
theorem LE {l:List StepV} {i:Nat} {x:StepV} (h:l[i]? = some x):iz (l.take (i+1))=iz (l.take i)+x.s.length:=by
 unfold iz;rw[fR,h];simp
abbrev ug (x:StepV):Prop:=x.k=1→(x.a≤30∨1000<x.a)∧(x.b≤40∨1000<x.b)
structure DC (l:List StepV):Prop where
 len:l.length≤40
 sum:iz l≤400
 ok: ∀x∈l,ug x
theorem aam {L:List StepV} {n i:Nat} {v:Int} (c:L.length=n) (b:v=(n:Int)+(iz (L.take i):Int)) (a: ∀x∈L.take i,ug x) (hi:i=n) (d:v≤400) (e:n≤40):DC L:=by
 subst hi;rw[ev aa] at b a
 exact⟨aa,aa,a⟩
theorem aan [Inhabited bO] (w:World) (F:Nat→Prop) (A:Option Addr) (n c:Nat) (L:List StepV) (k:Rd EStep w F A n c L) (N: ∀x∈L,x.s.length≤4611686018427387904):Calls prog 4 [.slice A n c].toArray w (ca (λb:Bool=> .bool b) (λb=>b=false→DC L) w):=by
 have O:=k.len
 have Ze:=k.cap
 have P:=k.max
 simp only[maxLen] at P
 refine aV func4 ntmps4 ?_;refine eL ?_;refine b2 (ι:=Nat × Int) (λt=>[(0,.slice A n c),(3,.int .i64 t.2),(4,.int .i64 (t.1 :Int))]) (λ_=>af w [] []) (λt=>t.1≤n∧t.2=(n:Int)+(iz (L.take t.1):Int)∧t.2≤9223372036854775807∧ ∀x∈L.take t.1,ug x) (λt=>n - t.1) ?_ ?_;exact λw' Q=>⟨(0,(n:Int)),⟨bP _,by simp[iz],by dsimp only;omega,λx e=>by simp at e⟩,(em rfl rfl rfl),Q⟩
 rintro⟨i,v⟩ ⟨hi,G,R,o⟩;dsimp only at hi G R o ⊢
 refine aq ?_;refine hL (λb:Bool=>[(0,.slice A n c),(3,.int .i64 v),(4,.int .i64 (i:Int)),(15,.bool b)]) (λ_=>af w [] []) (λb=>b=true↔(i<n∧v≤400)) ?_ ?_;refine al ?_;refine aW 12 rfl (λp=>?_) (λp=>?_);have S:=aX p
 refine al ?_;refine dr _ ?_ (cj rfl rfl rfl rfl) (λ_ h=>h)
 (simp only[e9];omega)
 have S:=bd p
 refine aS ?_;refine dr _ ?_ (cj rfl rfl rfl rfl) (λ_ h=>h);exact⟨λh=>Bool.noConfusion h,λh=>by exfalso;omega⟩;rintro b H;refine ar ?_;refine b1 rfl (λr=>?_) (λr=>?_);have T:=H.1 r
 obtain⟨⟨hd,kf,I,a⟩,e⟩ : ∃x,L[i]? = some x:=⟨_,bE aa⟩;have Zf:a.length≤4611686018427387904:=N _ (da e)
 have f:=LE e
 dsimp only at f
 obtain⟨bY,J,Zg,K⟩:=k.at_ e;have g:ug ⟨hd,kf,I,a⟩→ ∀x∈L.take (i+1),ug x:=λh x M=>by
  rw[fR,e] at M
  rcases cZ.1 M with l | l
  exact o x l;simp at l;subst l;exact h
 refine aJ ?_;refine bC (q:=i) zB rfl rfl rfl J rfl aa ?_;refine ar ?_;refine a_ (v:= .string (bs a)) no rfl rfl (λU y=>y.cu (K 3 _ rfl) av) ?_;refine aJ ?_;refine bC (q:=i) zB rfl rfl rfl J rfl aa ?_;refine cx (vs:=[.int .i64 hd,.int .i64 kf,.int .i64 I,.string (bs a)]) D_ rfl rfl rfl (λU y j u V=>y.cu (K j u V) av) ?_;refine ar ?_;intro Zh Zi Zj;refine aJ ?_;refine aW 33 rfl (λaH=>?_) (λaH=>?_);have W:=aX aH
 refine aK ?_;refine aW 37 rfl (λz=>?_) (λz=>?_);have X:=aX z
 refine aQ ?_;refine aW 42 rfl (λB=>?_) (λB=>?_);have Y:=aX B
 refine lV ?_;intro m d;exact ca.of true (λh=>Bool.noConfusion h) rfl d.ext;have Y:=bd B
 refine aK ?_;refine aW 46 rfl (λC=>?_) (λC=>?_);have Z:=aX C
 refine bH ?_;refine aj (λZa=>?_) (λZa=>?_);refine bx ?_;intro m d;exact ca.of true (λh=>Bool.noConfusion h) rfl d.ext;refine aK ?_;exact bi (i+1,v+(a.length:Int)) ⟨aa,by dsimp only;rw[f];omega,by dsimp only;omega,g (λh=>by dsimp only at *;omega)⟩ bm bR (λ_ h=>h.ax aA.nil);have Z:=bd C
 refine eL ?_;exact bi (i+1,v+(a.length:Int)) ⟨aa,by dsimp only;rw[f];omega,by dsimp only;omega,g (λh=>by dsimp only at *;omega)⟩ bm bR (λ_ h=>h.ax aA.nil);have X:=bd z
 refine cF ?_;refine aW 46 rfl (λD=>?_) (λD=>?_);have Zb:=aX D
 refine bH ?_;refine aj (λZc=>?_) (λZc=>?_);refine bx ?_;intro m d;exact ca.of true (λh=>Bool.noConfusion h) rfl d.ext;refine aK ?_;exact bi (i+1,v+(a.length:Int)) ⟨aa,by dsimp only;rw[f];omega,by dsimp only;omega,g (λh=>by dsimp only at *;omega)⟩ bm bR (λ_ h=>h.ax aA.nil);have Zb:=bd D
 refine eL ?_;exact bi (i+1,v+(a.length:Int)) ⟨aa,by dsimp only;rw[f];omega,by dsimp only;omega,g (λh=>by dsimp only at *;omega)⟩ bm bR (λ_ h=>h.ax aA.nil);have W:=bd aH
 refine xt ?_;exact bi (i+1,v+(a.length:Int)) ⟨aa,by dsimp only;rw[f];omega,by dsimp only;omega,g (λh=>by dsimp only at *;omega)⟩ bm bR (λ_ h=>h.ax aA.nil);have T: ¬(i<n∧v≤400):=λh=>Bool.noConfusion ((H.2 h).symm.trans r)
 refine aQ ?_;refine aW 55 rfl (λE=>?_) (λE=>?_);have Zd:=aX E
 refine aJ ?_;intro m d;exact ca.of true (λh=>Bool.noConfusion h) rfl d.ext;have Zd:=bd E
 refine bx ?_;intro m d;exact ca.of _ (λh=>by (have Zk:=bd h;exact aam O G o aa aa aa)) rfl d.ext
end Go.Proofs.YtlgnfdodnhokjaaGreatDoor.Mq
namespace Go.Proofs.YtlgnfdodnhokjaaGreatDoor.Mq
open Go Go.RowKit Go.Proofs
def uh:List UInt8:=[27,93,49,51,51,59,65,7,36,32,27,93,49,51,51,59,66,7,108,115,13,10,27,93,49,51,51,59,67,7,97,98,99,100,101,13,10,102,13,10,27,93,49,51,51,59,68,59,51,7]
def LF (t:fc):be:=if t.use=true then t.bk else t.am
def py (t:fc):List bG:=(LF t).bD.jL++(LF t).bD.cG
def DD (st:e8) (a:List bG) (id k:Int):List UInt8 × Bool × Int:=match kl st id ⟨(a.length:Int),0⟩ with
 | none=>([],false,5)
 | some b=>match px b k with
  | none=>([],false,1)
  | some (fr,to)=>(if to=⟨(a.length:Int),0⟩ then oi (fT a fr to) else fT a fr to,b.cut,0)
def LG:Option (ga × Int × fc):=uh.foldlM (CL 50) ((pt 0 50).h,(pt 0 50).state,yT 2 3 50)
def zf (t:fc):e8:=r1 ⟨[],9,0,[]⟩ (iw t).aF
def DE (t:fc):Bool:=decide (DD (zf t) (py t) 1 3=([97,98,99,100,101,10,102,10],false,0)) && (match lD (zf t) ⟨((py t).length:Int),0⟩ with | [_,b]=>b.has && decide (b.code=3) | _=>false)
theorem aao: (LG.map (λr=>DE r.2.2))=some true:=by kernel_rfl
end Go.Proofs.YtlgnfdodnhokjaaGreatDoor.Mq
namespace Go.Proofs.YtlgnfdodnhokjaaGreatDoor.Mq
open Go Go.RowKit Go.Proofs Tryz
theorem aap {P:Program} {n:Nat} {ops:Array Oper} {Q:cq} {rest:List Oper} {l:Fr} {d:Nat} {ty:TypeId} {pos:String} {a7:Array Edge} {b:World} {S:List Nat} {cs cs':List Chunk} {x:Operand} {t e g m c:Nat} {xs:List Value} (o:P.underlying t=some (.slice e)) (p:P.underlying e=some (.int .u8)) (ak:Nat.blt d n=true)
 (q:ba l x=some (.slice (some ⟨g,0,none⟩) m c)) (i:bn cs (aD g xs e) (Os.jw g e xs) cs')
 (h:az P n ops Q rest ((d,.slice (some ⟨g,0,none⟩) m c)::l) (af b S cs')):az P n ops Q (⟨some d,.convert t t x,ty,pos,a7,none⟩::rest) l (af b S cs):=by
 refine hD ak λy w r j=>?_
 have a:w.heap[g]? = some (.cells xs.toArray e (0,0)):=j.has i.has
 have s:w.shape? g=some (e,xs.length):=B_ (t:=e) a
 have z:g<w.heap.size:=(lH.1 a).1
 have A:w.heap[g]= .cells xs.toArray e (0,0):=(lH.1 a).2
 have u: (w.freeze ⟨g,xs.length,none⟩ 1).heap[g]? = some (.cells xs.toArray e (xs.length,xs.length+1)):=by
  unfold World.freeze;rw[ag aZ];dsimp only;rw[qG,aw rfl,a];rfl
 have v: ∀k,k≠g→(w.freeze ⟨g,xs.length,none⟩ 1).heap[k]? = w.heap[k]? :=λk f=>by
  simp[World.freeze,qG,Ne.symm f]
 refine⟨_,w.freeze ⟨g,xs.length,none⟩ 1,?_,h.at (j.ie i ⟨by simp[World.freeze],by simp[World.freeze],by simp[World.freeze],by simp[World.freeze],λk _ f=>v k (by simpa [aD] using f)⟩ ⟨_,_,u,bW _,by simp⟩ (by simp[aD,Os.jw]) (by simp[Os.jw]))⟩;simp[execOp,r x _ q,convert,run_underlying o,run_underlying p,markStringish,s]
theorem LH {s:bV}:s.ef=py s.T.abs:=by
 obtain⟨g,top,dm,cb,p,⟨am,bk,use,b8,cm,bM,buf,aF⟩,st,cY,dq,es,ck⟩:=s;cases use <;> rfl
theorem aaq [Inhabited bO] {s:bV} {m:Nat} {N:Int} (h:cQ s m N) (id k:Int):wy s id k=DD s.st.abs (py s.T.abs) id k:=by
 unfold wy DD;rw[←LH,h.ef.2.2];rfl
theorem aar (t:fc):py { iw t with aF:=[] } = py t:=by
 obtain⟨am,bk,use,b8,cm,buf,aF⟩:=t;cases use <;> rfl
theorem aas [Inhabited bO] {s s2:bV} (e:Dv 2 3 50 9 50 s) (h:Lm s 0 0 uh s2):wy s2 1 3=([97,98,99,100,101,10,102,10],false,0)∧ ∃f a,s2.jV=[f,a]∧a.has=true∧a.code=3:=by
 obtain⟨bu,l,i,m⟩:=h.ex;have c:=aao
 cases g:LG with
 | none=>rw[g] at c;cases c
 | some r=>
  rw[g] at c
  have d:DE r.2.2=true:=by injection c
  have ai:=e.p
  have n:bu=r.2.2:=by
   refine (l (by rw[ai]) (by rw[ai]) r ?_).2.2.2;rw[ai,e.T];exact g
  rw[e.st] at i
  subst n;have j:py s2.T.abs=py r.2.2:=by rw[m];exact aar r.2.2
  have k:s2.st.abs=zf r.2.2:=i
  unfold DE at d
  rw[d4] at d
  refine⟨?_,?_⟩;rw[aaq h.ok,j,k];exact aX d.1;have b:=d.2
  have o:s2.jV=lD (zf r.2.2) ⟨((py r.2.2).length:Int),0⟩:=by
   unfold bV.jV;rw[k,←h.ok.ef.2.2,LH,j]
  rw[o];split at b
  rename_i f a q;rw[q];rw[d4] at b
  exact⟨f,a,rfl,b.1,aX b.2⟩;cases b
theorem LI [Inhabited bO] (w:World) (t:a8 w [ei]):Calls prog 5 [].toArray w (aP (λ_:Unit=> .bool true) [ei] (λ_=>[ei]) (λ_=>True) w):=by
 refine bI func5 ntmps5 t ?_;refine aK ?_;refine a6 (l0:=[ei]) ae rfl En rfl (λa o=>Lk a (o.bo ae) 2 3 50 9 9 50 aZ aZ aZ aZ aZ aZ) (λs n=>?_);refine lV ?_;refine zs (out:=cz.all uh) ft rfl rfl rfl ab (λr K M=>?_);refine aap underlying51 underlying5 rfl rfl cA ?_;refine a6 (l0:=[cn s]) ae rfl Eo rfl (λa o=>Ln a s n.ok (o.bo ae) aa aa (some ⟨r,0,none⟩) 50 50 uh ((Os.Rd.Jh (E:=cz) (L:=uh) o (g:=r) (e:=5) aT aZ aZ).dC (λk u=>by subst u;exact o.zd (l:=[Os.jw k 5 (cz.all uh)]) (l2:=[cn s]) ae ae (by simp[aB,Os.jw]))) aZ) (λs2 d=>?_);refine ah ?_;obtain⟨x,f,b,y,N,B⟩:=aas n d;refine aq ?_;refine a6 (l0:=[cn s2]) (v:=λ_:Unit=> .tuple #[.string (bs [97,98,99,100,101,10,102,10]),.bool false,.int .i64 0]) (l':=λ_=>[cn s2]) (ok:=λ_=>True) ae rfl Ep (by rw[d.g];rfl) (λa o=>Calls.mono (Li a s2 d.ok (o.bo ae) 1 3) (λe w' h=>by rw[x] at h;exact h)) (λ_ _=>?_);refine bx ?_;refine a6 (l0:=[]) aA.nil rfl zJ (by rw[d.g];rfl) (λa o=>Dr a s2 d.ok (o.has aT)) (λz C=>?_);refine aS ?_;obtain⟨i,j,D⟩:=z;have F:D=[f,b]:=C.trans y
 subst F;refine uW ?_;refine jr (E:=jU) (e:=58) (L:=[f,b]) (A:=i) (c:=j) (q:=1) aT mJ rfl rfl rfl rfl (by show 1<2;decide) (λO G=>?_);refine ah ?_;refine a_ (v:= .bool b.has) oI rfl rfl (λH m=>m.gJ (E:=jU) (e:=58) (L:=[f,b]) (A:=i) (c:=j) (k:=1) aT G rfl 13 _ rfl) ?_;refine ay ?_;refine jr (E:=jU) (e:=58) (L:=[f,b]) (A:=i) (c:=j) (q:=1) aT mJ rfl rfl rfl rfl (by show 1<2;decide) (λP I=>?_);refine ah ?_;refine a_ (v:= .int .i64 b.code) bN rfl rfl (λH m=>m.gJ (E:=jU) (e:=58) (L:=[f,b]) (A:=i) (c:=j) (k:=1) aT I rfl 12 _ rfl) ?_;refine aK ?_;intro Q J;exact aP.bQ () a1 (by rw[B];rfl) (((J.open (l:=cW s2) cw).open (l:=fo s2.p s2.cb s2.p.g s2.T) cw).ax ae)
section
theorem af.ei [Inhabited bO] {b w:World} {S:List Nat} {cs:List Chunk} {s:bV} (h:af b S cs w) (d:Has cs (cn s)):af b S [ei] w:=by
 have ai: (aR (cW s)).pred w:=h.has d
 have e: (aR (fo s.p s.cb s.p.g s.T)).pred w:=y7 ai
 refine⟨h.ext,by simp[aB,Mq.ei,rz,List.nodup_range'],λc a=>?_,λk f=>h.ek k ?_⟩;obtain rfl:=eb.1 a;exact e _ av;obtain⟨c,a,i⟩:=e_.1 f;obtain rfl:=eb.1 a;refine e_.2 ⟨cn s,d.mem,?_⟩;show k∈aB (cW s)
 refine e_.2 ⟨aR (fo s.p s.cb s.p.g s.T),by simp,?_⟩;show k∈aB (fo s.p s.cb s.p.g s.T)
 exact e_.2 ⟨Mq.ei,by simp,i⟩
end
theorem aat {P:Program} {n:Nat} {c:Code} {Q:cq} {l:Fr} {H:World→Prop} {p:Prop} (ai: ∀w,H w→p) (h:p→dc P n c Q l H):dc P n c Q l H:=λw a=>h (ai w a) w a
theorem LJ (L:List StepV) (i:Nat):iz (L.take i)≤iz L:=by
 have h:iz L=iz (L.take i)+iz (L.drop i):=by
  unfold iz;rw[←List.sum_append,←fQ,iF]
 omega
section
set_option maxHeartbeats 2000000 in
theorem aau [Inhabited bO] (w:World) (ZC:a8 w [ei]) (a b c d e:Int) (ZD:0≤a∧a≤255) (ZE:0≤b∧b≤255) (ZF:0≤c∧c≤255) (ak:0≤d∧d≤255) (ZG:0≤e∧e≤255) (F:Nat→Prop) (A:Option Addr) (n q:Nat) (L:List StepV) (N:Rd EStep w F A n q L) (Zl: ∀k,F k→k∉aB [ei]) (ZH: ∀x∈L,x.s.length≤4611686018427387904) (ZI: ∀x∈L,-9223372036854775808≤x.a∧x.a≤9223372036854775807) (sn:List UInt8):
 Calls prog 3 [.agg [.int .u8 a,.int .u8 b,.int .u8 c,.int .u8 d,.int .u8 e].toArray,.slice A n q,.string (bs sn)].toArray w (aP (λ_:Unit=> .bool true) [ei] (λ_=>[ei]) (λ_=>True) w):=by
 have Zaa:=N.len
 refine bI func3 ntmps3 ZC ?_;refine ah ?_;intro Zm Zab Zac;refine ay ?_;refine hL (λg:Bool=>[(1,.slice A n q),(2,.string (bs sn)),(3,ptr Zm),(32,.bool g)]) (λ_=>af w (aB [ei]) [aD Zm [.int .u8 a,.int .u8 b,.int .u8 c,.int .u8 d,.int .u8 e] 23,ei]) (λg=>g=false→DC L∧sn.length≤30∧sn≠[]) ?_ ?_;refine aq ?_;refine a6 (l0:=[]) aA.nil rfl MK rfl (λf o=>aan f F A n q L (N.ext o.ext Zl) ZH) (λg Z=>?_);refine ar ?_;refine aW 20 rfl (λZJ=>?_) (λZJ=>?_);refine bH ?_;refine dr _ ?_ (cj rfl rfl rfl rfl) (λ_ h=>h.ax ae);exact λh=>Bool.noConfusion h
 refine aK ?_;refine aW 25 rfl (λaH=>?_) (λaH=>?_);have ZK:=aX aH
 refine aK ?_;refine dr _ ?_ (cj rfl rfl rfl rfl) (λ_ h=>h.ax ae);exact λh=>Bool.noConfusion h
 have ZK:=bd aH
 refine al ?_;refine aW 29 rfl (λZa=>?_) (λZa=>?_);have Zn:=aX Za
 refine aS ?_;refine dr _ ?_ (cj rfl rfl rfl rfl) (λ_ h=>h.ax ae);exact λh=>Bool.noConfusion h
 have Zn:=bd Za
 refine ar ?_;refine cJ (λf o=>LI f o) (λ_ _=>?_);refine aS ?_;refine dr _ ?_ (cj rfl rfl rfl rfl) (λ_ h=>h.ax ae);exact λ_=>⟨Z bv,aa,λh=>by subst h;exact absurd rfl Zn⟩
 rintro g Z;refine ar ?_;refine b1 rfl (λZo=>?_) (λZo=>?_);refine aq ?_;refine cJ (λf o=>LI f o) (λ_ _=>?_);refine al ?_;intro ZL O;exact aN () a1 O;obtain⟨Zb,Zad,Zp⟩:=Z Zo;have D:1≤sn.length:=by
  rcases gw sn.length with Zc | Zc
  exact absurd (iC Zc) Zp;exact Zc
 refine ay ?_;refine cJ (λf o=>aal f o a b c d e ZD ZE ZF ak ZG) (λfC ZM=>?_);refine hq ?_;refine b2 (ι:=Nat × bV) (λt=>[(1,.slice A n q),(2,.string (bs sn)),(7,ptr t.2.g),(8,.int .i64 (t.1 :Int))]) (λt=>af w (aB [ei]) [cn t.2]) (λt=>t.1≤n∧cQ t.2 (8000000*iz (L.take t.1)+t.1) ((t.1 :Int)*10000000000)) (λt=>n - t.1) ?_ ?_;exact λw' Zd=>⟨(0,fC),⟨bP _,by simpa [iz] using ZM⟩,(cj rfl rfl rfl rfl),Zd.ax ae⟩
 rintro⟨i,s⟩ ⟨hi,P⟩;dsimp only at hi P ⊢
 have Zae:iz (L.take i)≤iz L:=LJ L i
 have Zaf:=Zb.len
 have Zag:=Zb.sum
 refine aJ ?_;refine aj (λZN=>?_) (λZN=>?_);obtain⟨⟨hd,kf,Ze,Zf⟩,Q⟩ : ∃x,L[i]? = some x:=⟨_,bE aa⟩;have Zq:=da Q
 have ZO:=LE Q
 have Zah:iz (L.take (i+1))≤iz L:=LJ L (i+1)
 have Zr:=ZI _ Zq
 have ZP:ug ⟨hd,kf,Ze,Zf⟩:=Zb.ok _ Zq
 dsimp only at ZO Zr
 obtain⟨bY,ZQ,ZR,ZS⟩:=N.at_ Q;refine aK ?_;refine bC (q:=i) zB rfl rfl rfl ZQ rfl aa ?_;refine cx (vs:=[.int .i64 hd,.int .i64 kf,.int .i64 Ze,.string (bs Zf)]) D_ rfl rfl rfl (λU V j u Zs=>V.cu (ZS j u Zs) (by rw[block_add,block_add];exact Zl _ ZR)) ?_;refine a6 (l0:=[cn s]) ae rfl ML rfl (λf o=>aak f s P (o.bo ae) aa aa hd kf Ze Zf aa Zr ZP) (λs1 D=>?_);refine aK ?_;obtain⟨ZT,ZU⟩:=D;rw[←ZT];exact bi (i+1,s1) ⟨by dsimp only;omega,ZU.mono bm bm⟩ bm bR (λ_ h=>h.ax ae);have m:=P.ef
 have ZV: ∀k,∀c∈dQ s.ef k,(jH c).length≤36:=λk c z=>Lb ((Ld m.1 k).2 c z)
 have Zg: ∀r∈s.ef,∀x∈r.1,x.more.length≤1000000:=λr N x Q=>by have:=(m.1 r N).2 x Q;omega
 refine aK ?_;refine cJ (λf o=>Dt f s P o) (λx ZW=>?_);refine aS ?_;have W:b5 x.l=s.ef:=ZW
 have Zt:x.l.length=s.ef.length:=by rw[←W,cB]
 obtain⟨T,Zh⟩ : ∃T,T=fT s.ef ⟨0,0⟩ ⟨(x.l.length:Int),0⟩:=⟨_,rfl⟩;have ZX:T=fT s.ef ⟨0,0⟩ ⟨(s.ef.length:Int),0⟩:=by rw[Zh,Zt]
 have Zu:T.length≤1000000:=by rw[Zh];exact r0 m.1 m.2.1 _ _
 refine ay ?_;intro Zv Zai Zaj;refine aC ?_;refine a6 (l0:=[cn s]) ae rfl El rfl (λf o=>Lj f s P (o.bo ae) sn aa (-1)) (λ⟨y,Zak⟩ ZY=>?_);refine aK ?_;obtain⟨Zw,X⟩:=ZY rfl Zp;dsimp only at Zw X
 subst Zw;have ZZ:y.l.length=(occs sn T T.length).length:=by rw[X,findF,cB,ZX]
 have Zal:y.l.length≤1000000:=by rw[ZZ];exact fp (uX _ _ _) Zu
 refine aS ?_;refine ao (v:= .string (bs T)) rfl uI rfl (λf z=>Zh▸wt f _ x.A x.l.length x.c s.ef (W▸oW (z.has (c:=x.au) gD) (z.has (c:=x.b9) hM)) ⟨0,0⟩ ⟨(x.l.length:Int),0⟩ aa ⟨iB _,aZ⟩ (iB _) ⟨by dsimp only;omega,by dsimp only;omega⟩ Zg (by have:=r0 m.1 m.2.1 ⟨0,0⟩ ⟨(x.l.length:Int),0⟩;omega)) ?_;refine eR ?_;refine ao rfl MM rfl (λf z=>X6 f T sn Zu ⟨D,aa⟩) ?_;refine ay ?_;refine fA rfl ((cg bm)) ?_;refine aJ ?_;refine b2 (ι:=Nat) (λi=>[(2,.string (bs sn)),(9,x.val),(10,ptr Zv),(11,y.val),(14,.int .i64 (i:Int))]) (λ_=>af w (aB [ei]) [aD Zv (aY.enc ⟨(x.l.length:Int),0⟩) 35,y.au,x.au,x.b9,cn s]) (λi=>i≤y.l.length) (λi=>y.l.length - i) ?_ ?_;exact λw' Zd=>⟨0,bP _,(ec rfl rfl rfl rfl rfl),Zd.ax ae⟩
 rintro j Zs;refine aJ ?_;refine aj (λZ0=>?_) (λZ0=>?_);refine aat (λZam Z1=>BI (Z1.has (c:=y.au) bJ) aa) (λC=>?_);obtain⟨gs,C⟩:=C;obtain⟨p,ai⟩ : ∃p,y.l[j]? = some p:=⟨_,bE aa⟩;obtain⟨R,Zx⟩ : ∃R,0<j→y.l[j - 1]? = some R:=⟨(y.l[j - 1]?).getD ⟨0,0⟩,λh=>by rw[bE aa];rfl⟩;have Z2:0<j→eA p R=false:=λh=>by
  have V:=QB (rows:=s.ef) (sn:=sn) D
  rw[←X] at V
  obtain⟨Z3,Z4⟩:=cK.1 ai;obtain⟨Z5,Z6⟩:=cK.1 (Zx h);have Zy:=List.pairwise_iff_getElem.1 V (j - 1) j Z5 Z3 aa
  rw[Z4,Z6] at Zy
  exact Zy
 obtain⟨Zz,ZA,Zi,Zan⟩:=QC (rows:=s.ef) ZV D (X▸da ai);obtain⟨G,Y⟩ : ∃G,G=fT s.ef p ⟨(x.l.length:Int),0⟩:=⟨_,rfl⟩;have ZB:G.length≤1000000:=by rw[Y];exact r0 m.1 m.2.1 _ _
 rw[←Zt,←Y] at Zi
 refine al ?_;refine eF [0,1,2,3,4,5,6,7,8,9,10,11] 1 [[(12,false,[13])]] (_) mixed ab (λ_ O=>O.drew) (λ_ h=>(show af _ _ [y.au] _ from h.ax ae)) ?_;refine ah ?_;refine ny 83 rfl (λH=>?_) (λH=>?_);have Z7:=aX H
 refine aq ?_;refine aL rfl (λI B=>cC rfl rfl (H) (bC (q:=j) dD rfl rfl rfl C rfl aa aG)) ?_;refine aL rfl (λI B=>cC rfl rfl (H) (cx (vs:=p.enc) eg rfl rfl rfl (λU J K u M=>by subst J;exact B.gJ (E:=cf) aT C ai K u M) aG)) ?_;refine ah ?_;refine aL rfl (λI B=>cC rfl rfl (H) (bC (q:=j - 1) dD rfl rfl rfl C aa aa aG)) ?_;refine aL rfl (λI B=>cC rfl rfl (H) (cx (vs:=R.enc) eg rfl rfl rfl (λU J K u M=>by subst J;exact B.gJ (E:=cf) aT C (Zx aa) K u M) aG)) ?_;refine ah ?_;refine ao rfl MN rfl (λf z=>aah f p R) ?_;refine b3 (λ_=>True) (λ_ h=> .inr (h.ax ae)) (λ_ h=>a1) ?_;refine aS ?_;refine fA rfl ((Z2 aa)) ?_;refine ah ?_;refine bF [0,1,2,3,4,5] 1 [[(6,true,[7])]] ?_;refine ah ?_;refine aL rfl (λI B=>(bC (q:=j) dD rfl rfl rfl C rfl aa aG)) ?_;refine aL rfl (λI B=>(cx (vs:=p.enc) eg rfl rfl rfl (λU J K u M=>by subst J;exact B.gJ (E:=cf) bJ C ai K u M) aG)) ?_;refine ah ?_;refine ao (v:= .string (bs G)) rfl uI rfl (λf z=>Y▸wt f _ x.A x.l.length x.c s.ef (W▸oW (z.has (c:=x.au) cr) (z.has (c:=x.b9) gD)) p ⟨(x.l.length:Int),0⟩ aa ⟨Zz.1,aa⟩ (iB _) ⟨by dsimp only;omega,by dsimp only;omega⟩ Zg (by have:=r0 m.1 m.2.1 p ⟨(x.l.length:Int),0⟩;omega)) ?_;refine aJ ?_;refine a6 (l0:=[]) aA.nil rfl Em rfl (λf _=>KP f G sn ZB ⟨D,aa⟩) (λ⟨Z8,Z9⟩ Zj=>?_);refine aK ?_;obtain⟨S,Zk⟩:=Zj ZA Zi;dsimp only at S Zk
 subst S;refine bp ?_;refine fA rfl ((cg aa)) ?_;refine aK ?_;exact bi (j+1) aa aa bR (λ_ h=>h.ax ae);have Z7:=bd H
 refine bx ?_;refine b3 (λ_=>True) (λ_ h=> .inr (h.ax ae)) (λ_ h=>a1) ?_;refine aK ?_;refine bF [0,1,2,3,4,5] 1 [[(6,true,[7])]] ?_;refine ah ?_;refine aL rfl (λI B=>(bC (q:=j) dD rfl rfl rfl C rfl aa aG)) ?_;refine aL rfl (λI B=>(cx (vs:=p.enc) eg rfl rfl rfl (λU J K u M=>by subst J;exact B.gJ (E:=cf) bJ C ai K u M) aG)) ?_;refine ah ?_;refine ao (v:= .string (bs G)) rfl uI rfl (λf z=>Y▸wt f _ x.A x.l.length x.c s.ef (W▸oW (z.has (c:=x.au) cr) (z.has (c:=x.b9) gD)) p ⟨(x.l.length:Int),0⟩ aa ⟨Zz.1,aa⟩ (iB _) ⟨by dsimp only;omega,by dsimp only;omega⟩ Zg (by have:=r0 m.1 m.2.1 p ⟨(x.l.length:Int),0⟩;omega)) ?_;refine aJ ?_;refine a6 (l0:=[]) aA.nil rfl Em rfl (λf _=>KP f G sn ZB ⟨D,aa⟩) (λ⟨Z8,Z9⟩ Zj=>?_);refine aK ?_;obtain⟨S,Zk⟩:=Zj ZA Zi;dsimp only at S Zk
 subst S;refine bp ?_;refine fA rfl ((cg aa)) ?_;refine aK ?_;exact bi (j+1) aa aa bR (λ_ h=>h.ax ae);refine bx ?_;intro ZL O;exact aP.bQ () a1 rfl (O.ei (s:=s) hM)
end
end Go.Proofs.YtlgnfdodnhokjaaGreatDoor.Mq
namespace Go.Proofs.YtlgnfdodnhokjaaGreatDoor.Mq
open Go Go.RowKit Go.Proofs Go.ChangeShapes Go.WideShapes Go.Deep Tryz
section
theorem aav {H:Type}: (Rows.laid_internal_strconv_uint64pow10:DataW H)=Lib.tabData .u64 Lib.pow10Tab:=by kernel_rfl
theorem aaw {H:Type}: (Rows.laid_math_bits_deBruijn64tab:DataW H)=Lib.tabData .u8 (Lib.deBruijn64tab.map Int.ofNat):=by kernel_rfl
theorem LK: "*"++ "errors.errorString" = "*errors.errorString":=by decide
theorem LL (u:TypeId) (h:prog.typeName? 3 u=some "*errors.errorString"):u=464:=
 typeName_ptr_named (nm:= "errors.errorString") (by rw[LK];kernel_rfl) ab aZ u (by rw[LK];exact h)
theorem aax {W:World} {r:List (String × DataW Unit)} (c:laidMet prog (("math/bits.deBruijn64tab",Lib.tabData .u8 (Lib.deBruijn64tab.map Int.ofNat))::r) W):cN.mV W:=by
 have a:=Lib.tabIs_of_head (g:=0) (n:=64) (t:=427) (e:=5) ab ab ab ab ab ab c
 unfold Lib.TabIs World.var? at a
 rw[show prog.globalNamed "math/bits.deBruijn64tab" = some 0 by kernel_rfl,Option.bind_some] at a
 intro j d;show W.cell? ⟨0,j,none⟩=_
 cases b:W.heap[0]? with
 | none=>rw[b] at a;cases a
 | some f=>
  rw[b] at a
  cases f with
  | cells cs t h=>
   simp only[dA] at a
   subst a;rw[World.cell?];simp only[b];have: (List.map (λz=>Value.int .u8 z) (List.map Int.ofNat Lib.deBruijn64tab))[j]? = some (.int .u8 (Lib.deBruijn64tab.getD j 0)):=by
    rw[eD,eD,fI,bE d];rfl
   simpa using this
  | _=>cases a
def LM (P:Program) (t:TypeId):Bool:=match P.cellTypes P.depth t with
 | some ts=>ts.all λu=>match P.underlying u with
  | some (.int _)=>true
  | _=>false
 | none=>false
theorem ui {P:Program} {W:World} {g:Nat} {t:TypeId} (h:W.ShapedOpen P) (d:g<P.globals.size) (e: (((begin P (λ_ _=>0) default).world.heap[g]?).bind Obj.row?).map Prod.snd=some t) (f:P.buildable t=true) (a:LM P t=true):
 ∃cs ii j,W.heap[g]? = some (.cells cs ii j)∧ ∀(i:Nat) (v:Value),cs[i]? = some v→ ∃k n,v= .int k n:=by
 obtain⟨⟨zero,l⟩,m,rfl⟩:=Option.map_eq_some_iff.1 e;obtain⟨cs,o,_,p⟩:=h.1 g zero l d m;obtain⟨ts,q,_,r⟩:=p f;refine⟨cs,_,_,o,λi v s=>?_⟩;obtain⟨u,w,b⟩:=r i v s;unfold LM at a
 rw[q] at a
 have c:=i_.1 a u (da w)
 unfold Cell.ok at b
 split at c
 rename_i k x;rw[x] at b
 cases v <;> simp at b
 exact⟨_,_,rfl⟩;cases c
theorem uj {W:World} {g:Nat} (h: ∃cs ii c,W.heap[g]? = some (.cells cs ii c)∧ ∀(i:Nat) (v:Value),cs[i]? = some v→ ∃k n,v= .int k n) {a:Addr} (d:a.block=g) (s:ByteArray):W.cell? a≠some (.string s):=by
 obtain⟨cs,ii,c,e,f⟩:=h;intro b;rw[World.cell?,d,e] at b
 dsimp only at b
 split at b
 cases b
 obtain⟨k,n,j⟩:=f _ _ b;cases j
theorem LN {P:Program} {W:World} {n:String} {g:Nat} {t:TypeId} {v:Value} (c:P.globalNamed n=some g) (h:W.var? P n=some #[.iface t v]) {a:Addr} (d:a.block=g) (s:ByteArray):W.cell? a≠some (.string s):=by
 intro b;simp only[World.var?,c,Option.bind_some] at h
 rw[World.cell?,d] at b
 split at b
 rename_i cs ii i e;rw[e] at h
 simp only[dA] at h
 subst h;split at b
 cases b
 have f:=da (by simpa using b: ([Value.iface t v])[a.off]? = some (.string s))
 simp at f
 cases b
structure DF (W:World):Prop where
 own:letI:Inhabited bO:=⟨⟨W⟩⟩;a8 W [ei]
 str: ∀a:Addr,a.block<8→ ∀s,W.cell? a≠some (.string s)
theorem st0_of {W:World} (h:laidMetH prog Rows.topFindRow.laid W) (d:W.ShapedOpen prog):DF W:=by
 rw[MakeChecks.laidMetH_plain _ _ _ ab] at h
 have f:=laidMet.tail h
 have i:=laidMet.tail f
 have j:=laidMet.tail (laidMet.tail i)
 have u:=laidMet.tail j
 rw[show (Rows.laid_internal_strconv_uint64pow10:DataW Unit)=Lib.tabData .u64 Lib.pow10Tab from aav] at i
 rw[show (Rows.laid_math_bits_deBruijn64tab:DataW Unit)=Lib.tabData .u8 (Lib.deBruijn64tab.map Int.ofNat) from aaw] at f
 obtain⟨v,s1,k,_⟩:=laid_sentinel (g:=6) (ti:=80) (tp:=464) (te:=466) (ts:=9) j ab ab underlying80 LL underlying464 underlying466 rfl rfl underlying9 ab ab;obtain⟨w,s2,l,_⟩:=laid_sentinel (g:=5) (ti:=80) (tp:=464) (te:=466) (ts:=9) u ab ab underlying80 LL underlying464 underlying466 rfl rfl underlying9 ab ab;have m:du.fF W:=Lib.tabIs_of_head (g:=2) (n:=20) (t:=446) (e:=54) ab ab ab ab ab ab i
 have x:=ui (g:=0) d (aX ab) (t:=427) ab ab ab
 have y:=ui (g:=1) d (aX ab) (t:=3) ab ab ab
 have z:=ui (g:=2) d (aX ab) (t:=446) ab ab ab
 have A:=ui (g:=3) d (aX ab) (t:=456) ab ab ab
 have B:=ui (g:=4) d (aX ab) (t:=459) ab ab ab
 have o:=ui (g:=7) d (aX ab) (t:=463) ab ab ab
 have p:prog.globalNamed "strconv.ErrSyntax" = some 5:=by kernel_rfl
 have q:prog.globalNamed "strconv.ErrRange" = some 6:=by kernel_rfl
 have C:8≤W.heap.size:=by
  obtain⟨cs,ii,F,r,_⟩:=o;rcases ej 7 W.heap.size with b | b
  exact b;rw[r2 b] at r;cases r
 refine⟨⟨λc D=>?_,?_⟩,λa G s=>?_⟩;letI:Inhabited bO:=⟨⟨W⟩⟩
 obtain rfl:=eb.1 D;refine⟨λ_=>C,⟨λ_ _=>rfl,aax f,m,m,⟨⟨464,.pointer (some w),?_⟩,⟨464,.pointer (some v),?_⟩⟩,Os.U5 d⟩⟩;have b:=World.var?_cell p l 0
 exact b;have b:=World.var?_cell q k 0
 exact b;simp[aB,ei,rz,List.nodup_range']
 have E:a.block=0∨a.block=1∨a.block=2∨a.block=3∨a.block=4∨a.block=5∨a.block=6∨a.block=7:=by omega
 rcases E with b | b | b | b | b | b | b | b
 exact uj x b s;exact uj y b s;exact uj z b s;exact uj A b s;exact uj B b s;exact LN p l b s;exact LN q k b s;exact uj o b s
structure SzV where
 a:Int
 b:Int
 c:Int
 d:Int
 e:Int
def SzV.enc (x:SzV):List Value:=[.int .u8 x.a,.int .u8 x.b,.int .u8 x.c,.int .u8 x.d,.int .u8 x.e]
def SzV.Wf (x:SzV):Prop:=(0≤x.a∧x.a≤255)∧(0≤x.b∧x.b≤255)∧(0≤x.c∧x.c≤255)∧(0≤x.d∧x.d≤255)∧0≤x.e∧x.e≤255
section
variable {H:Type} {enc:TypeId × Value→H} {w:World} {base:Nat} {spare:Nat→Bool} {held:Bool}
theorem aay {n:Int} (h: (Lit.int .i64 n).wf=true): -9223372036854775808≤n∧n≤9223372036854775807:=by
 simpa [Lit.wf,IntKind.min,IntKind.max,IntKind.signed,IntKind.bits] using h
theorem wB {n:Int} (h: (Lit.int .u8 n).wf=true):0≤n∧n≤255:=by
 simpa [Lit.wf,IntKind.min,IntKind.max,IntKind.signed,IntKind.bits] using h
theorem sz_of {P:Program} {cs:List Value} (h:Fits enc P w base spare held [.int .u8,.int .u8,.int .u8,.int .u8,.int .u8] cs): ∃a:SzV,SzV.enc a=cs∧a.Wf:=by
 obtain⟨_,_,rfl,⟨b,rfl,c⟩,d⟩:=h.cons;obtain⟨_,_,rfl,⟨e,rfl,f⟩,g⟩:=d.cons;obtain⟨_,_,rfl,⟨i,rfl,aH⟩,j⟩:=g.cons;obtain⟨_,_,rfl,⟨k,rfl,l⟩,m⟩:=j.cons;obtain⟨_,_,rfl,⟨n,rfl,o⟩,p⟩:=m.cons;obtain rfl:=p.FH;exact⟨⟨b,e,i,k,n⟩,rfl,wB c,wB f,wB aH,wB l,wB o⟩
def LO:List kx:=[.int .i64,.int .i64,.int .i64,.str]
def StepV.Wf (x:StepV):Prop:=(-9223372036854775808≤x.a∧x.a≤9223372036854775807)∧x.s.length≤reachBytes
theorem aaz {P:Program} {cs:List Value} (h:Fits enc P w base spare held LO cs): ∃a:StepV,EStep.enc a=cs∧a.Wf:=by
 obtain⟨_,_,rfl,⟨c,rfl,m⟩,d⟩:=h.cons;obtain⟨_,_,rfl,⟨e,rfl,f⟩,g⟩:=d.cons;obtain⟨_,_,rfl,⟨i,rfl,aH⟩,j⟩:=g.cons;obtain⟨_,_,rfl,⟨b,rfl,k⟩,l⟩:=j.cons;obtain rfl:=l.FH;exact⟨⟨c,e,i,b.data.toList⟩,rfl,aay f,by show b.data.toList.length≤reachBytes;rw[lI];exact k⟩
theorem aaA:q_ prog 4 31=some LO:=by kernel_rfl
theorem openSts {b:Nat} {A:Option Addr} {n c:Nat} {x:DataW H × List MemPlace} (h:DataW.trod enc prog w base spare held b 24 [.slice A n c]=some x) (d:pU prog 24 x.1):
 ∃l,Rd EStep w (λk=>k<w.heap.size) A n c l∧n≤reachBytes∧ ∀a∈l,a.Wf:=by
 obtain⟨l,e,f,g⟩:=PI (E:=EStep) (G:=StepV.Wf) 4 _ underlying24 ab aZ aaA (λcs i=>aaz i) (aX ab) h d;exact⟨l,e,g,f⟩
end
theorem aaB {W:World} (h:DF W) {A:Option Addr} {n c:Nat} {L:List StepV} (a:Rd EStep W (λk=>k<W.heap.size) A n c L):Rd EStep W (λk=>k<W.heap.size∧8≤k) A n c L:=by
 refine⟨a.len,a.cap,a.max,λg=>?_⟩;obtain⟨bY,i,j,d⟩:=a.cells g;refine⟨bY,i,⟨j,?_⟩,d⟩;have e:=a.len
 cases f:L with
 | nil=>rw[f] at e;simp at e;omega
 | cons x l=>
  have m:=d 0 x 3 (.string (bs x.s)) (by rw[f];rfl) rfl
  rcases ej bY.block 8 with b | b
  exact absurd m (h.str _ (by simpa [Addr.add] using b) _);exact b
theorem find_p (W:World) (h:DF W) (z:SzV) (g:z.Wf) (A:Option Addr) (n c:Nat) (L:List StepV) (t:Rd EStep W (λk=>k<W.heap.size) A n c L) (p: ∀a∈L,a.Wf) (sn:List UInt8):
 Calls prog 3 #[.agg z.enc.toArray,.slice A n c,.string (bs sn)] W (λe i=>e= .returned (.bool true)∧Ext [] W i):=by
 letI:Inhabited bO:=⟨⟨W⟩⟩
 obtain⟨a,b,c',d,e⟩:=z;refine (aau W h.own a b c' d e g.1 g.2.1 g.2.2.1 g.2.2.2.1 g.2.2.2.2 (λk=>k<W.heap.size∧8≤k) A n c L (aaB h t) (λk r j=>?_) (λx l=>fp (p x l).2 aZ) (λx l=>(p x l).1) sn).mono λe i u=>?_
 obtain⟨q,m,o⟩:=e_.1 j;obtain rfl:=eb.1 m;have:=ot.1 o
 omega
 obtain⟨_,_,v,f⟩:=u;have w:ei.pred i:=f.all _ av
 refine⟨v,f.ext.os,f.ext.tape,f.ext.output,f.ext.size,λk r _=>?_⟩;rcases ej k 8 with s | s
 exact w.2.ai k s;refine f.ext.block k r (λj=>?_);obtain⟨q,m,o⟩:=e_.1 j;obtain rfl:=eb.1 m;have:=ot.1 o
 omega
end
end Go.Proofs.YtlgnfdodnhokjaaGreatDoor.Mq
namespace Go.Proofs.YtlgnfdodnhokjaaGreatDoor.Mq
open Go Go.RowKit Go.ChangeShapes Go.WideShapes Go.Deep
section
section
variable {H:Type} {enc:TypeId × Value→H} {P:Program} {w:World} {base:Nat} {spare:Nat→Bool} {held:Bool}
theorem wt_of {ts:List TypeId} {a:List (DataW H)} (h: (DataW.weightsEach P ts a).all (· ≤reachBytes)=true) {j:Nat} {t:TypeId} {d:DataW H} (b:ts[j]? = some t) (ak:a[j]? = some d):pU P t d:=λn c=>by
 simpa using i_.1 h n (DataW.weights_mem_each b ak n c)
theorem okWide_agg {r:Reach} {c:Nat} {t:TypeId} {v:Value} (a: (∃c8,P.underlying t=some (.struct c8))∨ ∃n e,P.underlying t=some (.array n e)) (b:Value.okWide P w r c t v): ∃cs,v= .agg cs:=by
 rcases a with ⟨c8,a⟩ | ⟨n,e,a⟩
 obtain⟨cs,h,_⟩:=okWide_struct a b;exact⟨cs,h⟩;simp only[Value.okWide,a] at b
 obtain⟨cs,h,_⟩:=b;exact⟨cs,h⟩
theorem Ext.below {w w':World} (h:Ext [] w w'):Below w.heap.size w w':=⟨h.os,h.tape,h.output,h.size,λk a=>h.block k a av⟩
theorem arr_of {cs:Array Value} {l:List Value} (h:l=cs.toList):cs=l.toArray:=by rw[h]
end
end
end Go.Proofs.YtlgnfdodnhokjaaGreatDoor.Mq
