/- part 43 of the proof -/
import Derived.Test.YtoghoobfpcadbaaGreatDoorQ42
import Derived.Test.YtoghoobfpcadbaaGreatDoorRows
import Derived.Lib.LaidTab
import Derived.Stop.LaidErr
import Derived.MakeChecks
import Derived.Look8
namespace Go.Proofs.YtoghoobfpcadbaaGreatDoor.Mq
open Go Go.RowKit Go.Proofs Go.ChangeShapes Go.WideShapes Go.Deep Tryz
section
theorem Y8 {H:Type}: (Rows.laid_internal_strconv_uint64pow10:DataW H)=Lib.tabData .u64 Lib.pow10Tab:=by kernel_rfl
theorem Y9 {H:Type}: (Rows.laid_math_bits_deBruijn64tab:DataW H)=Lib.tabData .u8 (Lib.deBruijn64tab.map Int.ofNat):=by kernel_rfl
theorem K7: "*"++ "errors.errorString" = "*errors.errorString":=by decide
theorem K8 (u:TypeId) (h:prog.typeName? 3 u=some "*errors.errorString"):u=474:=
 typeName_ptr_named (nm:= "errors.errorString") (by rw[K7];kernel_rfl) ab aZ u (by rw[K7];exact h)
theorem Y_ {W:World} {r:List (String × DataW Unit)} (c:laidMet prog (("math/bits.deBruijn64tab",Lib.tabData .u8 (Lib.deBruijn64tab.map Int.ofNat))::r) W):cO.mK W:=by
 have a:=Lib.tabIs_of_head (g:=0) (n:=64) (t:=436) (e:=5) ab ab ab ab ab ab c
 unfold Lib.TabIs World.var? at a
 rw[show prog.globalNamed "math/bits.deBruijn64tab" = some 0 by kernel_rfl,Option.bind_some] at a
 intro j d;show W.cell? ⟨0,j,none⟩=_
 cases b:W.heap[0]? with
 | none=>rw[b] at a;cases a
 | some f=>
  rw[b] at a
  cases f with
  | cells cs t h=>
   simp only[dI] at a
   subst a;rw[World.cell?];simp only[b];have: (List.map (λz=>Value.int .u8 z) (List.map Int.ofNat Lib.deBruijn64tab))[j]? = some (.int .u8 (Lib.deBruijn64tab.getD j 0)):=by
    rw[eJ,eJ,fB,bG d];rfl
   simpa using this
  | _=>cases a
def K9 (P:Program) (t:TypeId):Bool:=match P.cellTypes P.depth t with
 | some ts=>ts.all λu=>match P.underlying u with
  | some (.int _)=>true
  | _=>false
 | none=>false
theorem t_ {P:Program} {W:World} {g:Nat} {t:TypeId} (h:W.ShapedOpen P) (d:g<P.globals.size) (e: (((begin P (λ_ _=>0) default).world.heap[g]?).bind Obj.row?).map Prod.snd=some t) (f:P.buildable t=true) (a:K9 P t=true):
 ∃cs ih j,W.heap[g]? = some (.cells cs ih j)∧ ∀(i:Nat) (v:Value),cs[i]? = some v→ ∃k n,v= .int k n:=by
 obtain⟨⟨zero,l⟩,m,rfl⟩:=Option.map_eq_some_iff.1 e;obtain⟨cs,o,_,p⟩:=h.1 g zero l d m;obtain⟨ts,q,_,r⟩:=p f;refine⟨cs,_,_,o,λi v s=>?_⟩;obtain⟨u,w,b⟩:=r i v s;unfold K9 at a
 rw[q] at a
 have c:=iY.1 a u (dc w)
 unfold Cell.ok at b
 split at c
 rename_i k x;rw[x] at b
 cases v <;> simp at b
 exact⟨_,_,rfl⟩;cases c
theorem ua {W:World} {g:Nat} (h: ∃cs ih c,W.heap[g]? = some (.cells cs ih c)∧ ∀(i:Nat) (v:Value),cs[i]? = some v→ ∃k n,v= .int k n) {a:Addr} (d:a.block=g) (s:ByteArray):W.cell? a≠some (.string s):=by
 obtain⟨cs,ih,c,e,f⟩:=h;intro b;rw[World.cell?,d,e] at b
 dsimp only at b
 split at b
 cases b
 obtain⟨k,n,j⟩:=f _ _ b;cases j
theorem K_ {P:Program} {W:World} {n:String} {g:Nat} {t:TypeId} {v:Value} (c:P.globalNamed n=some g) (h:W.var? P n=some #[.iface t v]) {a:Addr} (d:a.block=g) (s:ByteArray):W.cell? a≠some (.string s):=by
 intro b;simp only[World.var?,c,Option.bind_some] at h
 rw[World.cell?,d] at b
 split at b
 rename_i cs ih i e;rw[e] at h
 simp only[dI] at h
 subst h;split at b
 cases b
 have f:=dc (by simpa using b: ([Value.iface t v])[a.off]? = some (.string s))
 simp at f
 cases b
structure Dq (W:World):Prop where
 own:letI:Inhabited bN:=⟨⟨W⟩⟩;a8 W [eh]
 str: ∀a:Addr,a.block<8→ ∀s,W.cell? a≠some (.string s)
theorem st0_of {W:World} (h:laidMetH prog Rows.topCapsRow.laid W) (d:W.ShapedOpen prog):Dq W:=by
 rw[MakeChecks.laidMetH_plain _ _ _ ab] at h
 have f:=laidMet.tail h
 have i:=laidMet.tail f
 have j:=laidMet.tail (laidMet.tail i)
 have u:=laidMet.tail j
 rw[show (Rows.laid_internal_strconv_uint64pow10:DataW Unit)=Lib.tabData .u64 Lib.pow10Tab from Y8] at i
 rw[show (Rows.laid_math_bits_deBruijn64tab:DataW Unit)=Lib.tabData .u8 (Lib.deBruijn64tab.map Int.ofNat) from Y9] at f
 obtain⟨v,s1,k,_⟩:=laid_sentinel (g:=6) (ti:=176) (tp:=474) (te:=476) (ts:=9) j ab ab underlying176 K8 underlying474 underlying476 rfl rfl underlying9 ab ab;obtain⟨w,s2,l,_⟩:=laid_sentinel (g:=5) (ti:=176) (tp:=474) (te:=476) (ts:=9) u ab ab underlying176 K8 underlying474 underlying476 rfl rfl underlying9 ab ab;have m:dz.fy W:=Lib.tabIs_of_head (g:=2) (n:=20) (t:=456) (e:=32) ab ab ab ab ab ab i
 have x:=t_ (g:=0) d (a1 ab) (t:=436) ab ab ab
 have y:=t_ (g:=1) d (a1 ab) (t:=3) ab ab ab
 have z:=t_ (g:=2) d (a1 ab) (t:=456) ab ab ab
 have A:=t_ (g:=3) d (a1 ab) (t:=466) ab ab ab
 have B:=t_ (g:=4) d (a1 ab) (t:=469) ab ab ab
 have o:=t_ (g:=7) d (a1 ab) (t:=473) ab ab ab
 have p:prog.globalNamed "strconv.ErrSyntax" = some 5:=by kernel_rfl
 have q:prog.globalNamed "strconv.ErrRange" = some 6:=by kernel_rfl
 have C:8≤W.heap.size:=by
  obtain⟨cs,ih,F,r,_⟩:=o;rcases e0 7 W.heap.size with b | b
  exact b;rw[rO b] at r;cases r
 refine⟨⟨λc D=>?_,?_⟩,λa G s=>?_⟩;letI:Inhabited bN:=⟨⟨W⟩⟩
 obtain rfl:=ey.1 D;refine⟨λ_=>C,⟨λ_ _=>rfl,Y_ f,m,m,⟨⟨474,.pointer (some w),?_⟩,⟨474,.pointer (some v),?_⟩⟩,Os.Uo d⟩⟩;have b:=World.var?_cell p l 0
 exact b;have b:=World.var?_cell q k 0
 exact b;simp[aA,eh,rn,List.nodup_range']
 have E:a.block=0∨a.block=1∨a.block=2∨a.block=3∨a.block=4∨a.block=5∨a.block=6∨a.block=7:=by omega
 rcases E with b | b | b | b | b | b | b | b
 exact ua x b s;exact ua y b s;exact ua z b s;exact ua A b s;exact ua B b s;exact K_ p l b s;exact K_ q k b s;exact ua o b s
structure SzV where
 a:Int
 b:Int
 c:Int
 d:Int
 e:Int
def SzV.enc (x:SzV):List Value:=[.int .u8 x.a,.int .u8 x.b,.int .u8 x.c,.int .u8 x.d,.int .u8 x.e]
def SzV.Wf (x:SzV):Prop:=(0≤x.a∧x.a≤255)∧(0≤x.b∧x.b≤255)∧(0≤x.c∧x.c≤255)∧(0≤x.d∧x.d≤255)∧0≤x.e∧x.e≤255
section
variable {H:Type} {enc:TypeId × Value→H} {w:World} {base:Nat} {spare:Nat→Bool} {held:Bool}
theorem aaa {n:Int} (h: (Lit.int .i64 n).wf=true): -9223372036854775808≤n∧n≤9223372036854775807:=by
 simpa [Lit.wf,IntKind.min,IntKind.max,IntKind.signed,IntKind.bits] using h
theorem wm {n:Int} (h: (Lit.int .u8 n).wf=true):0≤n∧n≤255:=by
 simpa [Lit.wf,IntKind.min,IntKind.max,IntKind.signed,IntKind.bits] using h
theorem sz_of {P:Program} {cs:List Value} (h:Fits enc P w base spare held [.int .u8,.int .u8,.int .u8,.int .u8,.int .u8] cs): ∃a:SzV,SzV.enc a=cs∧a.Wf:=by
 obtain⟨_,_,rfl,⟨b,rfl,c⟩,d⟩:=h.cons;obtain⟨_,_,rfl,⟨e,rfl,f⟩,g⟩:=d.cons;obtain⟨_,_,rfl,⟨i,rfl,aK⟩,j⟩:=g.cons;obtain⟨_,_,rfl,⟨k,rfl,l⟩,m⟩:=j.cons;obtain⟨_,_,rfl,⟨n,rfl,o⟩,p⟩:=m.cons;obtain rfl:=p.Fo;exact⟨⟨b,e,i,k,n⟩,rfl,wm c,wm f,wm aK,wm l,wm o⟩
def La:List ks:=[.int .i64,.int .i64,.int .i64,.str]
def StepV.Wf (x:StepV):Prop:=(-9223372036854775808≤x.a∧x.a≤9223372036854775807)∧x.s.length≤reachBytes
theorem aab {P:Program} {cs:List Value} (h:Fits enc P w base spare held La cs): ∃a:StepV,EStep.enc a=cs∧a.Wf:=by
 obtain⟨_,_,rfl,⟨c,rfl,m⟩,d⟩:=h.cons;obtain⟨_,_,rfl,⟨e,rfl,f⟩,g⟩:=d.cons;obtain⟨_,_,rfl,⟨i,rfl,aK⟩,j⟩:=g.cons;obtain⟨_,_,rfl,⟨b,rfl,k⟩,l⟩:=j.cons;obtain rfl:=l.Fo;exact⟨⟨c,e,i,b.data.toList⟩,rfl,aaa f,by show b.data.toList.length≤reachBytes;rw[lF];exact k⟩
theorem aac:qZ prog 4 35=some La:=by kernel_rfl
theorem openSts {b:Nat} {A:Option Addr} {n c:Nat} {x:DataW H × List MemPlace} (h:DataW.trod enc prog w base spare held b 24 [.slice A n c]=some x) (d:pP prog 24 x.1):
 ∃l,Rd EStep w (λk=>k<w.heap.size) A n c l∧n≤reachBytes∧ ∀a∈l,a.Wf:=by
 obtain⟨l,e,f,g⟩:=Pb (E:=EStep) (G:=StepV.Wf) 4 _ underlying24 ab aZ aac (λcs i=>aab i) (a1 ab) h d;exact⟨l,e,g,f⟩
end
theorem aad {W:World} (h:Dq W) {A:Option Addr} {n c:Nat} {L:List StepV} (a:Rd EStep W (λk=>k<W.heap.size) A n c L):Rd EStep W (λk=>k<W.heap.size∧8≤k) A n c L:=by
 refine⟨a.len,a.cap,a.max,λg=>?_⟩;obtain⟨b2,i,j,d⟩:=a.cells g;refine⟨b2,i,⟨j,?_⟩,d⟩;have e:=a.len
 cases f:L with
 | nil=>rw[f] at e;simp at e;omega
 | cons x l=>
  have m:=d 0 x 3 (.string (bs x.s)) (by rw[f];rfl) rfl
  rcases e0 b2.block 8 with b | b
  exact absurd m (h.str _ (by simpa [Addr.add] using b) _);exact b
theorem caps_p (W:World) (h:Dq W) (z:SzV) (g:z.Wf) (A:Option Addr) (n c:Nat) (L:List StepV) (t:Rd EStep W (λk=>k<W.heap.size) A n c L) (p: ∀a∈L,a.Wf):
 Calls prog 3 #[.agg z.enc.toArray,.slice A n c] W (λe i=>e= .returned (.bool true)∧Ext [] W i):=by
 letI:Inhabited bN:=⟨⟨W⟩⟩
 obtain⟨a,b,c',d,e⟩:=z;refine (Y7 W h.own a b c' d e g.1 g.2.1 g.2.2.1 g.2.2.2.1 g.2.2.2.2 (λk=>k<W.heap.size∧8≤k) A n c L (aad h t) (λk r j=>?_) (λx l=>fs (p x l).2 aZ) (λx l=>(p x l).1)).mono λe i u=>?_
 obtain⟨q,m,o⟩:=e3.1 j;obtain rfl:=ey.1 m;have:=od.1 o
 omega
 obtain⟨_,_,v,f⟩:=u;have w:eh.pred i:=f.all _ av
 refine⟨v,f.ext.os,f.ext.tape,f.ext.output,f.ext.size,λk r _=>?_⟩;rcases e0 k 8 with s | s
 exact w.2.ai k s;refine f.ext.block k r (λj=>?_);obtain⟨q,m,o⟩:=e3.1 j;obtain rfl:=ey.1 m;have:=od.1 o
 omega
end
end Go.Proofs.YtoghoobfpcadbaaGreatDoor.Mq
namespace Go.Proofs.YtoghoobfpcadbaaGreatDoor.Mq
open Go Go.RowKit Go.ChangeShapes Go.WideShapes Go.Deep
section
section
variable {H:Type} {enc:TypeId × Value→H} {P:Program} {w:World} {base:Nat} {spare:Nat→Bool} {held:Bool}
theorem wt_of {ts:List TypeId} {a:List (DataW H)} (h: (DataW.weightsEach P ts a).all (· ≤reachBytes)=true) {j:Nat} {t:TypeId} {d:DataW H} (b:ts[j]? = some t) (ak:a[j]? = some d):pP P t d:=λn c=>by
 simpa using iY.1 h n (DataW.weights_mem_each b ak n c)
theorem okWide_agg {r:Reach} {c:Nat} {t:TypeId} {v:Value} (a: (∃c8,P.underlying t=some (.struct c8))∨ ∃n e,P.underlying t=some (.array n e)) (b:Value.okWide P w r c t v): ∃cs,v= .agg cs:=by
 rcases a with ⟨c8,a⟩ | ⟨n,e,a⟩
 obtain⟨cs,h,_⟩:=okWide_struct a b;exact⟨cs,h⟩;simp only[Value.okWide,a] at b
 obtain⟨cs,h,_⟩:=b;exact⟨cs,h⟩
theorem Ext.below {w w':World} (h:Ext [] w w'):Below w.heap.size w w':=⟨h.os,h.tape,h.output,h.size,λk a=>h.block k a av⟩
theorem arr_of {cs:Array Value} {l:List Value} (h:l=cs.toList):cs=l.toArray:=by rw[h]
end
end
end Go.Proofs.YtoghoobfpcadbaaGreatDoor.Mq
