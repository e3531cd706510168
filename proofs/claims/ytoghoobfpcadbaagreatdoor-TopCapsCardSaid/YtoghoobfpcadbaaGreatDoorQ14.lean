/- part 14 of the proof -/
import Derived.Test.YtoghoobfpcadbaaGreatDoorQ13
namespace Go.Proofs.YtoghoobfpcadbaaGreatDoor.Mq
open Go Go.RowKit Go.Proofs Tryz
theorem Qt (m:Nat):fa [.int .i32 0,.string ByteArray.empty,.int .i64 0,.int .i64 0,.int .i64 0,.int .i64 0,.int .i64 0,.int .i64 0] m=bJ.all (List.replicate m gS):=by
 induction m with
 | zero=>rfl
 | succ m a=>
  rw[mv];show fa _ (m+1)=bJ.enc gS++bJ.all (List.replicate m gS)
  rw[←a];rfl
def lj (n:Int):Nat:=(max 0 (min n 1000)).toNat
theorem Qu (w:World) (n an aM:Int):Calls prog 308 [.int .i64 n,.agg [.int .i64 an,.int .i64 aM].toArray].toArray w (ji (List.replicate (lj n) (jY an aM)) w):=by
 have c:max 0 (min n 1000)=(lj n:Int):=by unfold lj;omega
 obtain⟨m,h⟩ : ∃m,m=lj n:=⟨_,rfl⟩;rw[←h] at c ⊢
 have s:m≤1000:=by omega
 refine aW func308 ntmps308 ?_;refine ah ?_;intro d t u;refine aL ?_;refine se m dB rfl rfl rfl c (by simp only[maxLen];omega) aa (λa v x=>?_);refine bB ?_;refine b1 (ι:=Nat) (λi=>[(3,ptr d),(5,.slice (some ⟨a,0,none⟩) m m),(12,.int .i64 (m:Int)),(13,.int .i64 (i:Int))]) (λi=>af w [] [oL a m m (fp (List.replicate m gS) 0 i an aM),aE d [.int .i64 an,.int .i64 aM] 86]) (λi=>i≤m) (λi=>m - i) ?_ ?_;exact λw' b=>⟨0,bP _,(cw rfl rfl rfl rfl),by
  have e:fp (List.replicate m gS) 0 0 an aM=List.replicate m gS:=by simp[fp]
  rw[e];rw[Qt] at b
  exact b⟩
 intro i hi;refine al ?_;refine aj (λk=>?_) (λk=>?_);have y:i<m:=by omega
 have z: (fp (List.replicate m gS) 0 i an aM).length=m:=by rw[uZ (by simp;omega),hd]
 have l:fp (List.replicate m gS) 0 (i+1) an aM=(fp (List.replicate m gS) 0 i an aM).set i (jY an aM):=by
  unfold fp;apply ms
  intro j;rw[oa];simp only[List.take_zero,oe,dA,List.drop_replicate,List.getElem?_append,b8,hd,rU];by_cases f:j<i
  simp[f,show ¬i=j by omega,show j<i+1 by omega]
  by_cases p:j=i
  subst p;simp;omega
  simp only[f,show ¬i=j by omega,show ¬j<i+1 by omega,if_false];by_cases A:j<m
  rw[ay aa,ay aa];rw[ag aa,ag aa]
 refine b_ ?_;refine ao rfl E8 rfl (λr B=>Gc r an aM) ?_;refine bw (q:=i) dB rfl rfl rfl rfl aa aa ?_;refine jT (o:=i*8) jU rfl rfl cA (by rw[Addr.add_lit,dA]) rfl (bJ.hj _) (by rw[bJ.dE];show i*8+8≤(fp (List.replicate m gS) 0 i an aM).length*8;omega) ?_;refine aD ?_;refine bg (i+1) aa aa (cw rfl rfl rfl rfl) (λw' b=>?_);rw[l];show af w [] [own 283 8 (.slice (some ⟨a,0,none⟩) m m) m (bJ.all ((fp (List.replicate m gS) 0 i an aM).set i (jY an aM))),_] w'
 rw[←sQ (jY an aM) (by omega:i<(fp (List.replicate m gS) 0 i an aM).length)];exact b;refine bI ?_;intro C g;have:i=m:=by omega
 subst this;have e:fp (List.replicate i gS) 0 i an aM=List.replicate i (jY an aM):=by simp[fp]
 rw[e] at g
 exact fd.of (Value.slice (some ⟨a,0,none⟩) i i) aT (by simp only[dQ,hd];exact g.aw ae)
theorem ji.au {L:List bj} {w w':World} {e:Ending} (h:ji L w e w'):fd (λi:Option Addr × Nat=>Value.slice i.1 L.length i.2) (λi=>dQ (.slice i.1 L.length i.2) L) (λ_=>True) w e w':=by
 obtain⟨v,_,rfl,b,a,d,f⟩:=h;obtain⟨A,c,rfl⟩:=wx (show w'.ownsRow 0 283 8 v L.length (bJ.all L) from a);exact⟨(A,c),aT,rfl,b,a,d,f⟩
theorem AR (w:World) (p:bq) (ai:p.an.pred w) (an aM:Int):Calls prog 216 [ptr p.g,.agg [.int .i64 an,.int .i64 aM].toArray].toArray w
 (fd (λg:bT=> .agg g.enc.toArray) bT.aG (λg=>g.fo=(List.replicate (lj p.cols) (jY an aM),false)) w):=by
 refine aW func216 ntmps216 ?_;refine ah ?_;intro f i j;refine ar ?_;intro k l m;refine ah ?_;refine bF [0,1,2,3,4] 2 [[(5,false,[6]),(7,true,[])]] ?_;refine ah ?_;refine aI rfl (λn b=>(a7 bM rfl rfl (λo c=>by subst c;exact b.bZ ai (by (simp;done)) rfl) aC)) ?_;refine ah ?_;refine gm rfl N0 rfl (λd q=>(Qu d p.cols an aM).mono (λ_ _ h=>h.au)) (λa _=>?_);refine bV (λ_=>True) (λ_ h=> .inr (h.rem bv.head)) (λ_ h=>aT) ?_;refine aR ?_;intro r e;exact fd.of (⟨a.1,a.2,false,List.replicate (lj p.cols) (jY an aM)⟩ :bT) rfl (e.aw ae)
theorem p3 (w:World) (p:bq) (b:a8 w (bD p)) (c:cU p.r) (o:p.be.l.length≤1152921504606) (k a n:Int):
 Calls prog 196 [ptr p.g,.int .i64 k,.int .i64 a,.int .i64 n].toArray w (hQ p (fF p.abs k a n) w):=by
 refine bC func196 ntmps196 b ?_;refine bp ?_;intro q s t;refine gv (news:=jX.enc ⟨k,a,n⟩) zv rfl rfl rfl bi (λ_=>by exact jf) rfl (jX.hj _) (by simp only[maxLen];omega) aa (λd u=>?_);refine iI (e:=167) (sz:=3) (v:=d) hp (λdF c9 f _ _ _ _=>?_);subst f;refine ax ?_;intro x h;refine aO.bQ (i:={ p with be:=⟨dF,c9,p.be.l++[⟨k,a,n⟩]⟩ }) ⟨rfl,c,rfl⟩ rfl ?_;have j: (p.be.l++[(⟨k,a,n⟩ :ec)]).length=p.be.l.length+1:=by simp
 have m:jX.all (p.be.l++[(⟨k,a,n⟩ :ec)])=jX.all p.be.l++jX.enc ⟨k,a,n⟩:=bx.hk jX _ _
 refine af.aw h (cs':=[]) ?_;simp only[bD,bq.an,nx,lT.val,lT.au,j,m];exact aB.cons bi ae
section
theorem bn.Qv {cs cs':List Chunk} {c c':Chunk} (h:bn cs c c' cs'):Has cs' c':=by
 induction h with
 | head=>exact Has.head
 | tail _ a=>exact Has.tail a
section
variable {P:Program} {n:Nat} {ops:Array Oper} {Q:cq} {rest:List Oper} {l:Fr} {d:Nat} {ty:TypeId} {pos:String} {a6:Array Edge}
variable {b:World} {S:List Nat} {cs:List Chunk}
theorem rb {α:Type} {E:bx α} {x y:Operand} {t e g:Nat} {z:List Value} {v:Value} {m:Nat} {xs:List Value} {A:Option Addr} {k c:Nat} {src:List α} {F:Nat→Prop} {cs':Value→List Chunk} (N:Nat) (j:m+k=N) (o:c6 P t e E.sz g z) (ak:Nat.blt d n=true)
 (p:ba l x=some v) (q:ba l y=some (.slice A k c)) (i: ∀a,bn cs (own e E.sz v m xs) (own e E.sz a N (xs++E.all src)) (cs' a))
 (r: ∀w,af b S cs w→Rd E w F A k c src) (s:m+k≤maxLen) (u: (m+k)*g≤140737488355328)
 (h: ∀f c',az P n ops Q rest ((d,.slice f N c')::l) (af b S (cs' (.slice f N c')))):
 az P n ops Q (⟨some d,.call ⟨.builtin .append,#[x,y],#[t,t]⟩,ty,pos,a6,none⟩::rest) l (af b S cs):=by
 subst j;exact nc o ak p q i r s u (λa _=>iI (i a).Qv (λf c' B _ _ _ _=>by subst B;exact h f c'))
end
abbrev sT (L:bS) (w:World):=fd (λg:bT=>Value.agg g.enc.toArray) bT.aG (λg=>g.fo=L) w
theorem Gh (w:World) (F:Nat→Prop) (A:Option Addr) (n c:Nat) (L:List bj) (a:Bool) (d:Rd bJ w F A n c L) (k:n≤1000000):Calls prog 93 [.agg [.slice A n c,.bool a].toArray].toArray w (sT (L,a) w):=by
 have e:=d.len
 refine aW func93 ntmps93 ?_;refine ah ?_;intro l o p;refine ar ?_;intro q r s;refine ah ?_;refine jS 283 8 ?_;refine eq [0,1,3,4] 2 [[(2,false,[5]),(6,true,[])]] (_) mixed ab (λ_ b=>b.drew) (λ_ h=>h.rem bv.head) ?_;refine al ?_;refine rb (E:=bJ) (m:=0) (xs:=[]) L.length aa dB rfl rfl rfl (λ_=>by exact cA) (λw' f=>d.ext f.ext av) (by simp only[maxLen];omega) aa (λg i=>?_);refine bV (λ_=>True) (λ_ h=> .inr (h.rem bv.head)) (λ_ h=>aT) ?_;refine aR ?_;intro t b;have j:n=L.length:=e.symm
 subst j;exact fd.of (⟨g,i,a,L⟩ :bT) rfl (b.aw ae)
theorem Qw (w:World) (F:Nat→Prop) (A:Option Addr) (n c:Nat) (L:List bj) (a:Bool) (d:Rd bJ w F A n c L) (k:n≤1000000):Calls prog 57 [.agg [.slice A n c,.bool a].toArray].toArray w (sT (L,a) w):=by
 have e:=d.len
 refine aW func57 ntmps57 ?_;refine ah ?_;intro l o p;refine ar ?_;intro q r s;refine ah ?_;refine jS 283 8 ?_;refine eq [0,1,3,4] 2 [[(2,false,[5]),(6,true,[])]] (_) mixed ab (λ_ b=>b.drew) (λ_ h=>h.rem bv.head) ?_;refine al ?_;refine rb (E:=bJ) (m:=0) (xs:=[]) L.length aa dB rfl rfl rfl (λ_=>by exact cA) (λw' f=>d.ext f.ext av) (by simp only[maxLen];omega) aa (λg i=>?_);refine bV (λ_=>True) (λ_ h=> .inr (h.rem bv.head)) (λ_ h=>aT) ?_;refine aR ?_;intro t b;have j:n=L.length:=e.symm
 subst j;exact fd.of (⟨g,i,a,L⟩ :bT) rfl (b.aw ae)
theorem p4 {r:dj} (h:cU r) {i:Int} (a:0≤i) (hi:i<r.s.l.length):0≤ev r i∧ev r i<r.s.l.length:=by
 have b:=h.first
 unfold ev;split <;> omega
def p5 (r:dj) (i:Nat):bS:=((r.s.l[(ev r i).toNat]?).map bT.fo).getD ([],false)
theorem p6 (r:dj) (i:Nat):r.rows[i]? = if i<r.n.toNat then some (p5 r i) else none:=by
 unfold dj.rows p5;rw[eJ];by_cases h:i<r.n.toNat
 rw[ay h,rT h];rfl
 rw[ag h,km (by simpa using h)];rfl
theorem lk (r:dj):r.rows.length=r.n.toNat:=by simp[dj.rows]
def kA (r:dj):dj:={ r with s:={ r.s with l:=r.s.l.set r.first.toNat jh },first:=ev r 1,n:=r.n - 1,gone:=(r.gone+1)%18446744073709551616 }
theorem Qx {r:dj} (h:cU r) (a:1≤r.n):cU (kA r):=by
 have b:=h.n;have c:=h.first;have d:=h.gone
 have e:=p4 h (i:=1) aa
 refine⟨by simpa [kA] using h.len,h.room,?_,?_,?_⟩;simp only[kA,fL];omega
 simp only[kA,fL];unfold ev;split <;> omega
 simp only[kA];omega
theorem Qy {r:dj} (h:cU r) (c:1≤r.n): (kA r).rows=r.rows.tail:=by
 have d:=h.n;have f:=h.first
 apply ms
 intro i;rw[List.getElem?_tail,p6,p6];by_cases hi:i+1<r.n.toNat
 ·rw[ay hi,ay (by simp only[kA];omega)]
  have e:ev (kA r) i=ev r ((i+1 :Nat):Int):=by
   simp only[ev,kA,fL];repeat' split
   all_goals omega
  have a:=p4 h (i:=((i+1 :Nat):Int)) aa aa
  have b:r.first.toNat≠(ev r ((i+1 :Nat):Int)).toNat:=by
   unfold ev at a ⊢
   split at a <;> split <;> omega
  unfold p5;rw[e];simp only[kA];rw[jx b]
 ·rw[ag hi,ag (by simp only[kA];omega)]
def kB (r:dj) (g:bT):dj:={ r with s:={ r.s with l:=r.s.l.set (ev r r.n).toNat g },n:=r.n+1 }
theorem Qz {r:dj} (h:cU r) (c:r.n<r.s.l.length) (g:bT):cU (kB r g):=by
 have d:=h.n;have a:=h.first;have b:=h.gone
 exact⟨by simpa [kB] using h.len,h.room,by simp only[kB,fL];omega,by simpa [kB] using a,b⟩
theorem QA {r:dj} (h:cU r) (c:r.n<r.s.l.length) (g:bT): (kB r g).rows=r.rows++[g.fo]:=by
 have k:=h.n;have m:=h.first
 have b:=p4 h (i:=r.n) aa c
 apply ms
 intro i;rw[List.getElem?_append,p6,lk];have e: ∀j:Int,ev (kB r g) j=ev r j:=λj=>by simp[ev,kB]
 by_cases hi:i<r.n.toNat
 rw[ay hi,ay (by simp only[kB];omega),p6,ay hi];have d: (ev r r.n).toNat≠(ev r (i:Int)).toNat:=by
  have a:=p4 h (i:=(i:Int)) aa aa
  unfold ev at b a ⊢
  split at b <;> split at a <;> omega
 unfold p5;rw[e];simp only[kB];rw[jx d];rw[ag hi];by_cases a:i=r.n.toNat
 subst a;rw[ay (by simp only[kB];omega),m9];unfold p5;rw[e];have f: ((r.n.toNat:Nat):Int)=r.n:=by omega
 rw[f];simp only[kB];rw[List.getElem?_set_self aa];rfl
 rw[ag (by simp only[kB];omega),km (by simp;omega)]
end
theorem Gi {b w:World} {S:List Nat} {cs cs':List Chunk} {r r':dj} {k:Nat} {z g:bT} {xs:List Value} (a:r.s.l[k]? = some z) (d:r'.s.A=r.s.A) (f:r'.s.c=r.s.c) (h:r'.s.l=r.s.l.set k g) (i:xs=cn.all (r.s.l.set k g)) (j:af b S cs w)
 (m:aB cs [g.aG,r.s.cj,aE r'.g [r.s.val,.int .i64 r'.room,.int .i64 r'.first,.int .i64 r'.n,.int .u64 r'.gone] 197,own 144 2 r.s.val r.s.l.length xs] cs'):af b S (cd r') w:=by
 have o:=j.aw m
 have aK:=o.AD (k:=k) (c:=z.aG) (by simp[a])
 have e:cd r'=[aE r'.g [r.s.val,.int .i64 r'.room,.int .i64 r'.first,.int .i64 r'.n,.int .u64 r'.gone] 197,own 144 2 r.s.val r.s.l.length xs,aU ((r.s.l.map bT.aG).set k g.aG)]:=by
  subst i;simp only[cd,dj.an,AE,dd.val,dd.au,dd.cj,d,f,h,fL,ob]
 rw[e];exact aK.aw ae
theorem af.QB {b w:World} {S:List Nat} {cs:List Chunk} (h:af b S cs w):af b S (jh.aG::cs) w:=h.na ⟨rfl,.inl ⟨rfl,rfl⟩⟩ rfl
theorem QC (w:World) (r:dj) (e:a8 w (cd r)) (a:cU r) (A:1≤r.n):Calls prog 370 [ptr r.g].toArray w (aO (λg:bT=> .agg g.enc.toArray) (cd r) (λ_=>cd (kA r)) (λ_=>True) w):=by
 have B:=a.n;have C:=a.first;have D:=a.len;have F:=a.room;have G:=a.gone
 obtain⟨g,b⟩:=ra (r:=r.s) (e.all _ av) aa;have f:r.s.val= .slice (some ⟨g,0,none⟩) r.s.l.length r.s.c:=by rw[dd.val,b]
 obtain⟨z,k⟩ : ∃z,r.s.l[r.first.toNat]? = some z:=⟨r.s.l[r.first.toNat]'aa,bG _⟩;have H:=p4 a (i:=1) aa
 refine bC func370 ntmps370 e ?_;refine ah ?_;intro I J K;refine ah ?_;refine bF [0,1,2,3,4,5,6,7,8,9] 2 [[(10,false,[]),(11,true,[])]] ?_;refine aL ?_;refine aI rfl (λm d=>(bw (q:=r.first.toNat) dM rfl rfl rfl b aa aa aC)) ?_;refine aI rfl (λm d=>(cy gP rfl rfl rfl (λL p j u t=>by subst p;exact d.xz (E:=cn) cu f k j u t) aC)) ?_;refine ah ?_;intro M N O;refine bV (λ_=>True) (λ_ h=> .inr (h.rem bv.head)) (λ_ h=>aT) ?_;refine aL ?_;refine bF [0,1,2,3,4,5,6,7,8,9] 1 [[(10,true,[])]] ?_;refine aJ ?_;refine aI rfl (λm d=>(bw (q:=r.first.toNat) dM rfl rfl rfl b aa aa aC)) ?_;refine aq ?_;refine xA f (o:=r.first.toNat*2) gP rfl rfl ns (by rw[Addr.add_lit,dA]) rfl (cn.hj jh) (by rw[cn.dE];show r.first.toNat*2+2≤r.s.l.length*2;omega) ?_;refine aL ?_;refine ao rfl wN rfl (λv x=>xq v r (x.has cu) _ aa aa aa) ?_;refine oD ?_;refine gu (r:=(r.gone+1)%18446744073709551616) rfl rfl rfl (by simp[IntKind.wrap,IntKind.bits,IntKind.signed]) ?_;refine bI ?_;intro P y;exact aO.bQ (i:=z) aT rfl (Gi (r':=kA r) (g:=jh) k rfl rfl rfl (bx.hl cn jh aa) (af.QB y) ae)
theorem Gj (w:World) (r:dj) (e:a8 w (cd r)) (a:cU r):Calls prog 200 [ptr r.g].toArray w (aO (λ_:dj=> .int .i64 r.n) (cd r) cd (λz=>z.g=r.g∧z.room=r.room∧cU z∧z.rows=[]) w):=by
 have l:=a.n;have m:=a.first;have o:=a.len;have f:=a.room;have p:=a.gone
 refine bC func200 ntmps200 e ?_;refine aL ?_;refine ao rfl zG rfl (λh b=>AF h r (b.has aQ)) ?_;refine aR ?_;refine aj (λj=>?_) (λj=>?_);refine kw ?_;refine dm rfl rfl underlying3 underlying32 (r:=r.n) (by simp[IntKind.wrap,IntKind.bits,IntKind.signed];omega) ?_;refine gu (r:=(r.gone+r.n)%18446744073709551616) rfl rfl rfl (by simp[IntKind.wrap,IntKind.bits,IntKind.signed]) ?_;refine bI ?_;intro k d;exact aO.bQ (i:=(⟨r.g,⟨none,0,[]⟩,r.room,0,0,(r.gone+r.n)%18446744073709551616⟩ :dj)) ⟨rfl,rfl,⟨by simp;omega,f,by simp,by simp,by simp;omega⟩,rfl⟩ rfl ((af.na (af.na d (c:=aU []) (λc b=>by simp at b) rfl) (c:=own 144 2 (.slice none 0 0) 0 []) ⟨rfl,.inl ⟨rfl,rfl⟩⟩ rfl).aw ae);refine aR ?_;intro k d;exact aO.bQ (i:=r) ⟨rfl,rfl,a,iZ (by rw[lk];omega)⟩ rfl d
theorem af.AS {b w:World} {S:List Nat} {cs l1 l2:List Chunk} (h:af b S (aU l1::aU l2::cs) w):af b S (aU (l1++l2)::cs) w:=by
 have a:=h.lb
 have c:af b S (aU l2::(l1++cs)) w:=a.perm oh
 have d:=c.lb
 refine af.close' (d.perm ?_);rw[←fh];exact List.Perm.append_right _ og
theorem QD (m:Nat):fa [.slice none 0 0,.bool false] m=cn.all (List.replicate m jh):=by
 induction m with
 | zero=>rfl
 | succ m a=>
  rw[mv];show fa _ (m+1)=cn.enc jh++cn.all (List.replicate m jh)
  rw[←a];rfl
def iM (r:dj):List bT:=r.s.l.drop r.first.toNat++r.s.l.take r.first.toNat
theorem Gk {r:dj} (h:cU r) {i:Nat} (hi:i<r.s.l.length): (iM r)[i]? = r.s.l[(ev r i).toNat]? :=by
 have b:=h.first
 unfold iM ev;rw[List.getElem?_append,fK,mu,iB];by_cases a:i<r.s.l.length - r.first.toNat
 rw[ay a,ag aa];congr 1;omega
 rw[ag a,ay aa,ay aa];congr 1;omega
theorem AT {r:dj} (h:cU r): (iM r).length=r.s.l.length:=by
 have a:=h.first
 simp only[iM,b8,fK,dv];omega
def j0 (r:dj):Int:=min r.room (max 4 (2*(r.s.l.length:Int)))
def iN (r:dj) (g:Nat):dj:={ r with s:=⟨some ⟨g,0,none⟩,(j0 r).toNat,iM r++List.replicate ((j0 r).toNat - r.s.l.length) jh⟩,first:=0 }
theorem Gl {r:dj} {g:Nat} (h:cU r): (iN r g).s.l.length=(j0 r).toNat:=by
 have a:=h.len;have b:=h.room
 simp only[iN,b8,AT h,hd,j0];omega
theorem Gm {r:dj} (h:cU r) (d:r.n=r.s.l.length) (e:r.n<r.room) (g:Nat):cU (iN r g)∧(iN r g).n<(iN r g).s.l.length:=by
 have f:=h.len;have b:=h.room;have i:=h.n;have c:=h.gone
 have a:=Gl (g:=g) h
 have j:r.n<j0 r:=by unfold j0;omega
 refine⟨⟨?_,b,?_,?_,c⟩,?_⟩;rw[a];simp only[iN];unfold j0 at *;omega
 rw[a];simp only[iN];omega
 rw[a];simp only[iN];omega
 rw[a];simp only[iN];omega
theorem QE {r:dj} (h:cU r) (c:r.n=r.s.l.length) (d:r.n<r.room) (g:Nat): (iN r g).rows=r.rows:=by
 have f:=h.len;have j:=h.room;have k:=h.n
 have a:=Gl (g:=g) h
 have m:r.n<j0 r:=by unfold j0;omega
 apply ms
 intro i;rw[p6,p6];by_cases hi:i<r.n.toNat
 rw[ay hi,ay (by simp only[iN];omega)];have e:ev (iN r g) i=i:=by
  have b: (iN r g).first=0:=rfl
  unfold ev;rw[a,b];split <;> omega
 unfold p5;rw[e];simp only[iN,hc];rw[m8 (by rw[AT h];omega),Gk h aa];rw[ag hi,ag (by simp only[iN];omega)]
theorem QF (w:World) (r:dj) (m:a8 w (cd r)) (a:cU r) (R:r.n=r.s.l.length) (S:r.n<r.room):Calls prog 371 [ptr r.g].toArray w (aO (λ_:Nat=> .tuple #[]) (cd r) (λg=>cd (iN r g)) (λ_=>True) w):=by
 have T:=a.n;have U:=a.first;have V:=a.len;have W:=a.room;have X:=a.gone
 have Y:r.n<j0 r:=by unfold j0;omega
 obtain⟨sz,p⟩ : ∃sz:Nat,j0 r=(sz:Int):=⟨(j0 r).toNat,aa⟩;have Z: (sz:Int)≤100000:=by rw[←p];unfold j0;omega
 have Za:=AT a
 refine bC func371 ntmps371 m ?_;refine ar ?_;refine ou ([(0,ptr r.g),(2,.int .i64 (sz:Int))]) (af w (aA (cd r)) (cd r)) ?_ ?_
 ·refine bF [0,1,2,3,4,5,6,7,8,9,10,11,12] 0 [[]] ?_
  refine aJ ?_;refine aI rfl (λf d=>(k1 rfl rfl rfl (wrap64 aa aa) aC)) ?_;refine ax ?_;refine gw ?_ (λ_ h=>h);rw[←p];exact (iJ rfl rfl)
 ·refine aS ?_
  refine se sz dM rfl rfl rfl rfl (by simp only[maxLen];omega) aa (λb Zb Zc=>?_);refine b_ ?_;refine b1 (ι:=Nat) (λi=>[(0,ptr r.g),(3,.slice (some ⟨b,0,none⟩) sz sz),(22,.int .i64 r.n),(23,.int .i64 (i:Int))]) (λi=>af w (aA (cd r)) (own 144 2 (.slice (some ⟨b,0,none⟩) sz sz) sz (cn.all ((iM r).take i++List.replicate (sz - i) jh))::cd r)) (λi=>(i:Int)≤r.n) (λi=>r.n.toNat - i) ?_ ?_
  ·exact λw' e=>⟨0,aa,(cw rfl rfl rfl rfl),by
    rw[QD] at e
    simpa using e⟩
  ·intro i hi
   refine al ?_;refine aj (λy=>?_) (λy=>?_)
   ·obtain⟨g,t⟩:=ra (r:=r.s) (m.all _ av) aa
    have A:r.s.val= .slice (some ⟨g,0,none⟩) r.s.l.length r.s.c:=by rw[dd.val,t]
    have Zd:=p4 a (i:=(i:Int)) aa aa
    obtain⟨z,v⟩ : ∃z,r.s.l[(ev r i).toNat]? = some z:=⟨r.s.l[(ev r i).toNat]'aa,bG _⟩;have B: (iM r)[i]? = some z:=by rw[Gk a aa];exact v
    have C: (iM r).take (i+1)++List.replicate (sz - (i+1)) jh=((iM r).take i++List.replicate (sz - i) jh).set i z:=by
     have D: ((iM r).take i).length=i:=by rw[dv];omega
     rw[gk,B,rY _ _ aa,D,m9,show sz - i=(sz - (i+1))+1 by omega,mv,mw];simp
    have F: ((iM r).take i++List.replicate (sz - i) jh).length=sz:=by
     simp only[b8,dv,hd];omega
    refine aR ?_;refine bF [0,1,2,3,4,5,6,7] 2 [[(8,false,[9,10,11]),(12,true,[])]] ?_;refine aR ?_;refine ao rfl wN rfl (λG k=>xq G r (k.has bH) _ aa aa aa) ?_;refine bV (_) (λ_ h=> .inr h) (λ_ h=>h) ?_;refine aI rfl (λf d=>(bw (q:=(ev r i).toNat) dM rfl rfl rfl t aa aa aC)) ?_;refine aI rfl (λf d=>(cy gP rfl rfl rfl (λZe H j u I=>by subst H;exact d.xz (E:=cn) cu A v j u I) aC)) ?_;refine aI rfl (λf d=>(bw (q:=i) dM rfl rfl rfl rfl aa aa aC)) ?_;refine aq ?_;refine jT (o:=i*2) gP rfl rfl cA (by rw[Addr.add_lit,dA]) rfl (cn.hj z) (by rw[cn.dE,F];show i*2+2≤sz*2;omega) ?_;refine aJ ?_;refine bg (i+1) aa aa (cw rfl rfl rfl rfl) (λw' e=>?_);rw[C,←bx.hl cn z aa];exact e
   ·have J:i=r.s.l.length:=by omega
    refine et ?_;intro K x;have L: (iM r).take i=iM r:=ez aa
    rw[L,J] at x
    have M: (j0 r).toNat=sz:=by omega
    refine aO.of (b:Nat) aT ?_;have N:=x.aw (l:=[r.s.cj,aE r.g [.slice (some ⟨b,0,none⟩) sz sz,.int .i64 r.room,.int .i64 0,.int .i64 r.n,.int .u64 r.gone] 197,own 144 2 (.slice (some ⟨b,0,none⟩) sz sz) sz (cn.all (iM r++List.replicate (sz - r.s.l.length) jh))]) ae
    have ai:List.Perm (r.s.l.map bT.aG) ((iM r).map bT.aG):=by
     refine List.Perm.map _ ?_;unfold iM;conv=>lhs;rw[←i7 r.first.toNat r.s.l]
     exact og
    have aK:=N.F8 ai
    have O:af w _ (aU ((iM r).map bT.aG)::aU (List.replicate (sz - r.s.l.length) jh.aG)::_) K:=(af.na aK (c:=aU (List.replicate (sz - r.s.l.length) jh.aG)) (λc k=>by rw[m7 k];exact⟨rfl,.inl ⟨rfl,rfl⟩⟩) (by simp[aU,aA,own,Value.ownBlock])).perm (List.Perm.swap _ _ _)
    have P:=O.AS
    have Q: (iM r++List.replicate (sz - r.s.l.length) jh).length=sz:=by
     simp only[b8,hd];omega
    simp only[cd,dj.an,AE,dd.val,dd.au,dd.cj,iN,M,Q,gf,List.map_replicate];exact P.aw ae
def oN (h:List bS) (room:Int) (r:bS):List bS:=if room=0 then h else (if (h.length:Int)=room then h.tail else h)++[r]
theorem AU (w:World) (r:dj) (T:a8 w (cd r)) (d:cU r) (F:Nat→Prop) (A:Option Addr) (n c:Nat) (L:List bj) (B:Bool) (U:Rd bJ w F A n c L) (V: ∀k,F k→k∉aA (cd r)) (W:n≤1000000):
 Calls prog 287 [ptr r.g,.agg [.slice A n c,.bool B].toArray].toArray w
  (aO (λi:List Value × dj=> .tuple #[.agg i.1.toArray,.bool (decide (r.n=r.room))]) (cd r) (λi=>cd i.2) (λi=>i.2.g=r.g∧i.2.room=r.room∧cU i.2∧i.2.rows=oN r.rows r.room (L,B)∧i.1.length=2∧aH i.1) w):=by
 have X:=d.n;have Y:=d.first;have Z:=d.len;have Za:=d.room;have Zp:=d.gone
 refine bC func287 ntmps287 T ?_;refine ah ?_;intro t Zq Zr;refine ar ?_;intro u Zs Zt;refine dx ?_;refine gm rfl Ep rfl (λj m=>Gh j F A n c L B (U.ext m.ext V) W) (λa Zb=>?_);refine bI ?_;refine aj (λC=>?_) (λC=>?_);refine al ?_;refine gu (r:=(r.gone+1)%18446744073709551616) rfl rfl rfl (by simp[IntKind.wrap,IntKind.bits,IntKind.signed]) ?_;refine b_ ?_;refine ij results287 (cC.eR gP rfl bH rfl rfl) (cC.tmp rfl) (λZc D=>?_);exact aO.bQ (i:=(a.enc,{ r with gone:=(r.gone+1)%18446744073709551616 })) ⟨rfl,rfl,⟨Z,Za,X,Y,by simp only;omega⟩,by rw[oN,ay C];rfl,rfl,cn.hj a⟩ (by rw[b5 (by omega:r.n=r.room)];rfl) (D.aw ae);refine ax ?_;intro x Zu Zv;refine ah ?_;refine bF [0,1,2,3,4,5,6,7,8,9] 0 [[]] ?_;refine cI ?_;have Zw:=lk r
 refine aS ?_;refine hK (λi:Value × Value × dj=>[(0,ptr r.g),(3,ptr t),(4,ptr u),(6,ptr x),(7,.bool (decide (r.n=r.room)))]) (λi=>af w (aA (cd r)) (aE x [i.1,i.2.1] 144::a.aG::aE u [.slice none 0 0,.bool false] 144::aE t a.enc 144::cd i.2.2)) (λi=>aH [i.1,i.2.1]∧i.2.2.g=r.g∧i.2.2.room=r.room∧cU i.2.2∧i.2.2.n<i.2.2.room∧i.2.2.rows=(if (r.rows.length:Int)=r.room then r.rows.tail else r.rows)) ?_ ?_;refine aj (λZd=>?_) (λZd=>?_);refine aq ?_;refine aY ae rfl OA rfl (λj m=>QC j r (m.bo ae) d aa) (λy Zx=>?_);refine aq ?_;refine dw (.slice y.A y.cells.length y.c,.bool y.cont,kA r) ⟨aH.cons rfl (aH.cons rfl aH.nil),rfl,rfl,Qx d aa,by show r.n - 1<r.room;omega,?_⟩ (ea rfl rfl rfl rfl rfl) (λ_ h=>af.aw h ae);rw[Qy d aa,ay aa];refine ar ?_;refine dw (.slice none 0 0,.bool false,r) ⟨aH.cons rfl (aH.cons rfl aH.nil),rfl,rfl,d,by show r.n<r.room;omega,?_⟩ (ea rfl rfl rfl rfl rfl) (λ_ h=>af.aw h ae);rw[ag aa];rintro⟨M,N,hh⟩ ⟨E,O,G,b,p,H⟩;dsimp only at E O G b p H ⊢
 rw[←O];have Zy:=b.n;have Zz:=b.first;have ZA:=b.len;have ZB:=b.room
 refine ah ?_;refine bF [0,1,2,3,4,5,6,7,8,9] 0 [[]] ?_;refine bI ?_;refine hK (λi:Value × Value × dj=>[(0,ptr hh.g),(3,ptr t),(4,ptr u),(6,ptr x),(7,.bool (decide (r.n=r.room)))]) (λi=>af w (aA (cd r)) (aE x [i.1,i.2.1] 144::a.aG::aE u [.slice none 0 0,.bool false] 144::aE t a.enc 144::cd i.2.2)) (λi=>aH [i.1,i.2.1]∧i.2.2.g=hh.g∧i.2.2.room=r.room∧cU i.2.2∧i.2.2.n<i.2.2.room∧i.2.2.rows=(if (r.rows.length:Int)=r.room then r.rows.tail else r.rows)∧i.2.2.n<i.2.2.s.l.length) ?_ ?_;refine aj (λZe=>?_) (λZe=>?_);refine aq ?_;refine aY ae rfl OB rfl (λj m=>QF j hh (m.bo ae) b aa p) (λI _=>?_);refine ar ?_;refine dw (M,N,iN hh I) ⟨E,rfl,G,(Gm b aa p I).1,p,?_,(Gm b aa p I).2⟩ (ea rfl rfl rfl rfl rfl) (λ_ h=>af.aw h ae);rw[QE b aa p];exact H
 refine ar ?_;exact dw (M,N,hh) ⟨E,rfl,G,b,p,H,by show hh.n<hh.s.l.length;omega⟩ bR (λ_ h=>h);rintro⟨Zf,Zg,fb⟩ ⟨J,P,Q,f,Zh,R,K⟩;dsimp only at J P Q f Zh R K ⊢
 rw[←P];have ZC:=f.n;have ZD:=f.first;have ZE:=f.len;have ZF:=f.room
 have ZG:=p4 f (i:=fb.n) aa aa
 refine hE (e:=144) (sz:=2) (v:=fb.s.val) kv (λdF c9 Zi _ _ _ Zj=>?_);injection Zi with Zk _ Zl
 subst Zk Zl;obtain⟨Zm,S⟩:=Zj aa;have Zn:fb.s.val= .slice (some ⟨Zm,0,none⟩) fb.s.l.length fb.s.c:=by rw[dd.val,S]
 obtain⟨z,Zo⟩ : ∃z,fb.s.l[(ev fb fb.n).toNat]? = some z:=⟨fb.s.l[(ev fb fb.n).toNat]'aa,bG _⟩;refine ar ?_;refine bF [0,1,2,3,4,5,6,7,8,10] 2 [[(9,false,[11]),(12,true,[])]] ?_;refine bB ?_;refine ao rfl wN rfl (λj m=>xq j fb (m.has hp) _ aa aa aa) ?_;refine ar ?_;refine aI rfl (λZH ZI=>(bw (q:=(ev fb fb.n).toNat) dM rfl rfl rfl S aa aa aC)) ?_;refine aq ?_;refine xA Zn (o:=(ev fb fb.n).toNat*2) gP rfl rfl sD (by rw[Addr.add_lit,dA]) rfl (cn.hj a) (by rw[cn.dE];show (ev fb fb.n).toNat*2+2≤fb.s.l.length*2;omega) ?_;refine hr ?_;refine eW gP rfl rfl ld rfl J (dY rfl) ?_;refine aS ?_;refine ij results287 (cC.eR gP rfl cu rfl rfl) (cC.tmp rfl) (λZc D=>?_);refine aO.bQ (i:=([Zf,Zg],kB fb a)) ⟨rfl,Q,Qz f K _,?_,rfl,J⟩ rfl (Gi (r':=kB fb a) (g:=a) Zo rfl rfl rfl (bx.hl cn a aa) D ae);rw[QA f K,Zb,oN,ag C,R]
theorem Gn {P:Program} {n:Nat} {ops:Array Oper} {Q:cq} {rest:List Oper} {l:Fr} {d:Nat} {ty:TypeId} {pos:String} {a6:Array Edge} {b:World} {S:List Nat} {cs:List Chunk} {α:Type} {E:bx α} {x y:Operand} {t e i:Nat} {z:List Value} {v0:Value} {g m c a c1:Nat} {f:Option Addr} {L:List α} {A:Option Addr} {k c':Nat} {src:List α} {F:Nat→Prop} {cs':List Chunk} (j:v0= .slice (some ⟨g,0,none⟩) m c) (p r:Nat) (o:r=min k a) (q:c6 P t e E.sz i z) (ak:Nat.blt d n=true)
 (s:ba l x=some (.slice f a c1)) (u:ba l y=some (.slice A k c')) (ai:0<r→f=some ⟨g,p*E.sz,none⟩) (v:p+r≤L.length)
 (B:bn cs (own e E.sz v0 m (E.all L)) (own e E.sz v0 m (E.all (L.take p++src.take r++L.drop (p+r)))) cs')
 (C: ∀w,af b S cs w→Rd E w F A k c' src)
 (h:az P n ops Q rest ((d,.int .i64 (r:Int))::l) (af b S cs')):
 az P n ops Q (⟨some d,.call ⟨.builtin .copy,#[x,y],#[t,t]⟩,ty,pos,a6,none⟩::rest) l (af b S cs):=by
 subst j;exact xt p r o q ak s u ai v B C h
def gU {α:Type} (l:List α) (a b:Nat) (r:α):List α:=
 if a<b then l.take a++(l.drop (a+1)).take (b - a)++[r]++l.drop (b+1) else l.take b++[r]++(l.drop b).take (a - b)++l.drop (a+1)
theorem AV {α:Type} {l:List α} {a b:Nat} {r:α} (c:a<l.length) (d:b<l.length): (gU l a b r).length=l.length:=by
 unfold gU;split <;> simp only[b8,dv,fK,eK,lH] <;> omega
theorem QG {α c:Type} (f:α→c) (l:List α) (a b:Nat) (r:α): (gU l a b r).map f=gU (l.map f) a b (f r):=by
 unfold gU;split <;> simp[List.map_take,List.map_drop]
theorem QH {α:Type} {l:List α} {a b:Nat} {r:α} (c:a<l.length) (d:b<l.length):List.Perm (l.set a r) (gU l a b r):=by
 rw[qG,ay c];unfold gU;split
 have e:l.drop (a+1)=(l.drop (a+1)).take (b - a)++l.drop (b+1):=by
  conv=>lhs;rw[←i7 (b - a) (l.drop (a+1))]
  rw[mr,show a+1+(b - a)=b+1 by omega]
 conv=>lhs;rw[e]
 simp only[fh];refine List.Perm.append_left _ ?_;rw[←rZ (x:=r),←fh,←fh];exact List.Perm.append_right _ og;have e:l.take a=l.take b++(l.drop b).take (a - b):=by
  conv=>lhs;rw[show a=b+(a - b) by omega,List.take_add]
 rw[e];simp only[fh];refine List.Perm.append_left _ ?_;rw[←rZ (x:=r),←fh,←fh];exact List.Perm.append_right _ og
theorem QI {α:Type} {l:List α} {a b:Nat} {r:α} (c:a<b) (d:b<l.length): (l.take a++((l.take (b+1)).drop (a+1)).take (b - a)++l.drop (a+(b - a))).set b r=gU l a b r:=by
 rw[gU,ay c,show a+(b - a)=b by omega];have e: ((l.take (b+1)).drop (a+1)).take (b - a)=(l.drop (a+1)).take (b - a):=by
  rw[List.drop_take,List.take_take,show min (b - a) (b+1 - (a+1))=b - a by omega]
 rw[e,rY _ _ (by simp;omega)];have f:b - (l.take a++(l.drop (a+1)).take (b - a)).length=0:=by simp;omega
 rw[f,lG d,mw];simp
theorem QJ {α:Type} {l:List α} {a b:Nat} {r:α} (c: ¬a<b) (f:a<l.length): (l.take (b+1)++((l.take a).drop b).take (a - b)++l.drop (b+1+(a - b))).set b r=gU l a b r:=by
 rw[gU,ag c,show b+1+(a - b)=a+1 by omega];have d: ((l.take a).drop b).take (a - b)=(l.drop b).take (a - b):=by
  rw[List.drop_take,List.take_take,Nat.min_self]
 rw[d,fh,List.set_append_left _ _ (by simp;omega)];have e: (l.take (b+1)).set b r=l.take b++[r]:=by
  rw[gk,bG aa,pt,rY _ _ (by simp only[dv];omega)];have:b - (l.take b).length=0:=by simp;omega
  rw[this];rfl
 rw[e];simp
def rc (p:bq) (l:List bT):bq:={ p with s:={ p.s with l:=l } }
theorem AW {w:World} {r:dd} (a:r.au.pred w):Rd cn w (λ_=>True) r.A r.l.length r.c r.l:=by
 obtain⟨A,c,b,d⟩:=Rd.ga (E:=cn) (show w.ownsRow 0 144 cn.sz r.val r.l.length (cn.all r.l) from a) rfl;injection b with e g f
 subst e f;exact d.dJ (λ_ _=>aT)
theorem Gp {b w:World} {S:List Nat} {cs cs':List Chunk} {p:bq} {x y:Nat} {g:bT} {xs:List Value} (a:x<p.s.l.length) (d:y<p.s.l.length) (f:xs=cn.all (gU p.s.l x y g)) (h:af b S cs w)
 (i:aB cs [g.aG,p.s.cj,p.an,aU (cd p.r),own 144 2 p.s.val p.s.l.length xs,p.be.au] cs'):af b S (bD (rc p (gU p.s.l x y g))) w:=by
 have j:=h.aw i
 have aK:=j.AD (k:=x) (c:=(p.s.l[x]'a).aG) (by simp[a])
 have m:=aK.F8 (l':=(gU p.s.l x y g).map bT.aG) (by
  rw[←ob];exact List.Perm.map _ (QH a d))
 have n:=AV (r:=g) a d
 have e:bD (rc p (gU p.s.l x y g))=[p.an,aU (cd p.r),own 144 2 p.s.val p.s.l.length xs,aU ((gU p.s.l x y g).map bT.aG),p.be.au]:=by
  subst f;simp only[bD,rc,bq.an,nx,dd.val,dd.au,dd.cj,n]
 rw[e];exact m.aw ae
theorem QK (w:World) (p:bq) (j:a8 w (bD p)) (A:c7 p.abs) (x y:Nat) (k:x<p.s.l.length) (m:y<p.s.l.length) (an aM:Int):
 Calls prog 434 [ptr p.g,.int .i64 (x:Int),.int .i64 (y:Int),.agg [.int .i64 an,.int .i64 aM].toArray].toArray w
  (aO (λ_:bT=> .tuple #[]) (bD p) (λg=>bD (rc p (gU p.s.l x y g))) (λg=>g.fo=(List.replicate (lj p.cols) (jY an aM),false)) w):=by
 have B:=A.rows
 simp only[bq.abs,b0,cT] at B
 obtain⟨g,b⟩:=ra (r:=p.s) (j.all _ av) aa;have f:p.s.val= .slice (some ⟨g,0,none⟩) p.s.l.length p.s.c:=by rw[dd.val,b]
 have I:p.s.l.length≤p.s.c:=(AW (j.all p.s.au av)).cap
 refine bC func434 ntmps434 j ?_;refine ah ?_;intro J K M;refine aR ?_;refine aj (λC=>?_) (λC=>?_);refine bF [0,1,2,3,4,5,6,7,8,9,10,11,12,13,14,15] 1 [[(16,true,[])]] ?_;refine al ?_;refine aI rfl (λd e=>(ft x y dM rfl rfl (.inl ⟨_,_,rfl,rfl,aa⟩) (.inl ⟨_,_,rfl,rfl,aa⟩) aa aa aC)) ?_;refine aL ?_;refine aI rfl (λd e=>(ft (x+1) (y+1) dM rfl rfl (.inl ⟨_,_,rfl,rfl,aa⟩) (.inl ⟨_,_,rfl,rfl,aa⟩) aa aa aC)) ?_;refine aq ?_;refine Gn (E:=cn) (L:=p.s.l) (src:=(p.s.l.take (y+1)).drop (x+1)) (g:=g) (F:=λ_=>True) f x (y - x) aa dM rfl rfl rfl (λD=>by rw[ag aa,b];simp[Addr.add_lit];rfl) aa ns (λG n=>(AW (r:=p.s) (n.has hL)).cut aa aa) ?_;refine aS ?_;refine bF [0,1,2,3,4,5,6] 2 [[(7,false,[8]),(9,true,[])]] ?_;refine aJ ?_;refine gm rfl zT rfl (λt u=>AR t p (u.has bH) an aM) (λa v=>?_);refine bV (λ_=>True) (λ_ h=> .inr (h.rem bv.head)) (λ_ h=>aT) ?_;refine aI rfl (λd e=>(bw (q:=y) dM rfl rfl rfl b aa aa aC)) ?_;refine aq ?_;refine xA f (o:=y*2) gP rfl rfl jf (by rw[Addr.add_lit,dA]) rfl (cn.hj a) (by rw[cn.dE];simp only[b8,dv,fK];show y*2+2≤_*2;omega) ?_;refine aS ?_;intro H z;exact aO.bQ (i:=a) v rfl (Gp k m ((bx.hl cn a (by simp only[b8,dv,fK];omega)).trans (aV cn.all (QI aa m))) z ae);refine bF [0,1,2,3,4,5,6,7,8,9,10,11,12,13,14,15] 1 [[(16,true,[])]] ?_;refine aL ?_;refine aI rfl (λd e=>(ft (y+1) (x+1) dM rfl rfl (.inl ⟨_,_,rfl,rfl,aa⟩) (.inl ⟨_,_,rfl,rfl,aa⟩) aa aa aC)) ?_;refine al ?_;refine aI rfl (λd e=>(ft y x dM rfl rfl (.inl ⟨_,_,rfl,rfl,aa⟩) (.inl ⟨_,_,rfl,rfl,aa⟩) aa aa aC)) ?_;refine aq ?_;refine Gn (E:=cn) (L:=p.s.l) (src:=(p.s.l.take x).drop y) (g:=g) (F:=λ_=>True) f (y+1) (x - y) aa dM rfl rfl rfl (λD=>by rw[ag aa,b];simp[Addr.add_lit];rfl) aa ns (λG n=>(AW (r:=p.s) (n.has hL)).cut aa aa) ?_;refine aS ?_;refine bF [0,1,2,3,4,5,6] 2 [[(7,false,[8]),(9,true,[])]] ?_;refine aJ ?_;refine gm rfl zT rfl (λt u=>AR t p (u.has bH) an aM) (λa v=>?_);refine bV (λ_=>True) (λ_ h=> .inr (h.rem bv.head)) (λ_ h=>aT) ?_;refine aI rfl (λd e=>(bw (q:=y) dM rfl rfl rfl b aa aa aC)) ?_;refine aq ?_;refine xA f (o:=y*2) gP rfl rfl jf (by rw[Addr.add_lit,dA]) rfl (cn.hj a) (by rw[cn.dE];simp only[b8,dv,fK];show y*2+2≤_*2;omega) ?_;refine aS ?_;intro H z;exact aO.bQ (i:=a) v rfl (Gp k m ((bx.hl cn a (by simp only[b8,dv,fK];omega)).trans (aV cn.all (QJ aa k))) z ae)
def fN (p:b4):Int:=p.jH.length
def nD (p:b4) (a b:Nat) (k v:Int):b4:={ p with cJ:=gU p.cJ a b (q_ p.cols k v) }
def sU (p:b4) (a b:Nat) (k v:Int):b4:=iL (iL (nD (fF (fF p 1 (fN p+a) 1) 0 (fN p+b) 1) a b k v) a false) (b+1) false
def oO (p:b4) (a b:Nat) (k v:Int):b4:=iL (iL (nD (fF (fF p 1 (fN p+b) 1) 0 (fN p+a) 1) b a k v) (a+1) false) (b+1) false
def nE (p:b4):b4:={ p with jH:=oN p.jH p.room (p.cJ.headD ([],false)) }
def mH (p:b4) (a b:Nat) (k v:Int):b4:=
 if 0<a then sU p a b k v else
 let q:=fF p 0 (fN p+b+1) 1
 let q:=if fN p=p.room then fF (nE q) 2 0 1 else nE q
 iL (nD q 0 b k v) (b+1) false
def sV (p:b4):b4:=if p.jH.length=0 then p else iL (fF { p with jH:=[] } 2 0 p.jH.length) 0 false
theorem re {p:bq} (h:cU p.r):p.r.n=fN p.abs:=by
 have:=h.n
 simp only[fN,bq.abs,lk];omega
theorem p7 {p:b4} (h:c7 p) (k a n:Int):c7 (fF p k a n):=⟨h.cols,h.rows,h.wide,h.nC,h.room⟩
theorem mem_modify {α:Type} {f:α→α}: ∀{l:List α} {k:Nat} {x:α},x∈l.modify k f→x∈l∨ ∃y∈l,x=f y
 | [],k,x,h=>by simp at h
 | a::l,0,x,h=>by
  rw[List.modify_zero_cons] at h
  rcases eZ.1 h with rfl | h
  exact .inr ⟨a,by simp,rfl⟩;exact .inl (by simp[h])
 | a::l,k+1,x,h=>by
  rw[List.modify_succ_cons] at h
  rcases eZ.1 h with rfl | h
  exact .inl av;rcases mem_modify h with h | ⟨y,b,rfl⟩
  exact .inl (by simp[h]);exact .inr ⟨y,by simp[b],rfl⟩
theorem AX {p:b4} (h:c7 p) (y:Int) (b:Bool):c7 (iL p y b):=by
 unfold iL nA;split
 refine⟨h.cols,by simpa using h.rows,λr a=>?_,h.nC,h.room⟩;rcases mem_modify a with a | ⟨r',c,rfl⟩
 exact h.wide r a;exact h.wide r' c;exact h
theorem QL {α:Type} {l:List α} {a b:Nat} {r x:α} (h:x∈gU l a b r):x∈l∨x=r:=by
 unfold gU at h
 split at h <;> simp only[db,ey] at h
 rcases h with ((h | h) | h) | h
 exact .inl (iD h);exact .inl (lK (iD h));exact .inr h;exact .inl (lK h);rcases h with ((h | h) | h) | h
 exact .inl (iD h);exact .inr h;exact .inl (lK (iD h));exact .inl (lK h)
theorem xB {p:b4} (h:c7 p) {a b:Nat} (e:a<p.cJ.length) (f:b<p.cJ.length) (k v:Int):c7 (nD p a b k v):=by
 refine⟨h.cols,?_,λr d=>?_,h.nC,h.room⟩;have:=h.rows
 simp only[nD,AV e f];exact this
 rcases QL d with d | rfl
 exact h.wide r d;have:=h.cols
 refine⟨by simp only[q_,nD,hd];omega,λc g=>?_⟩;rw[m7 g];exact bP _
theorem QM {p:bq} (d:c7 p.abs) {a b:Nat} {g:bT} {k v:Int} (c:g.fo=(List.replicate (lj p.cols) (jY k v),false)): (rc p (gU p.s.l a b g)).abs=nD p.abs a b k v:=by
 have e:lj p.cols=p.cols.toNat:=by
  have:=d.cols
  simp only[bq.abs] at this
  unfold lj;omega
 rw[e] at c
 simp only[bq.abs,rc,nD,b0,QG,c,q_]
structure QN (g:Nat) (q:b4) (i:bq):Prop where
 g:i.g=g
 r:cU i.r
 abs:i.abs=q
theorem AY (w:World) (p:bq) (b:a8 w (bD p)) (c:cU p.r) (a:c7 p.abs) (x y:Nat) (d:x<p.s.l.length) (f:y<p.s.l.length) (an aM:Int):
 Calls prog 434 [ptr p.g,.int .i64 (x:Int),.int .i64 (y:Int),.agg [.int .i64 an,.int .i64 aM].toArray].toArray w (hQ p (nD p.abs x y an aM) w):=
 (QK w p b a x y d f an aM).mono (λe w' h=>aO.mono h (λg i=>⟨rc p (gU p.s.l x y g),⟨rfl,c,QM a i⟩,rfl,rfl⟩))
theorem Gq (w:World) (p:bq) (D:a8 w (bD p)) (j:cU p.r) (k:c7 p.abs) (U:p.be.l.length≤1152921504600) (x y:Nat) (V:x<p.s.l.length) (W:y<p.s.l.length) (an aM:Int):
 Calls prog 405 [ptr p.g,.int .i64 (x:Int),.int .i64 (y:Int),.agg [.int .i64 an,.int .i64 aM].toArray].toArray w (hQ p (sU p.abs x y an aM) w):=by
 have E:=k.rows
 have m:=re j
 have X:=k.room
 have Y:=j.n
 have Z: (p.abs.jH.length:Int)=p.r.n:=by rw[m];rfl
 simp only[bq.abs,b0,cT] at E
 refine bC func405 ntmps405 D ?_;refine ah ?_;intro Za Zb Zc;refine al ?_;refine ao rfl oz rfl (λb c=>by have a:=oK b p (c.has bH) ((c.has cu: (aU (cd p.r)).pred b) p.r.an av);exact a) ?_;refine aq ?_;refine aY (l0:=bD p) ae rfl pJ rfl (λb c=>by have a:=p3 b p (c.bo ae) j aa 1 (p.r.n+x) 1;exact a) (λd F=>?_);obtain⟨e,t,f⟩:=F;have G:d.r.n=p.r.n:=by rw[re t,f,m];rfl
 have Zd:d.be.l.length=p.be.l.length+1:=by have:=aV (λz=>z.gd.length) f;simpa [bq.abs,fF] using this
 refine al ?_;refine ao rfl oz rfl (λb c=>by have a:=oK b d (c.has aQ) ((c.has bH: (aU (cd d.r)).pred b) d.r.an av);rw[e] at a;exact a) ?_;refine aq ?_;refine aY (l0:=bD d) ae rfl pJ rfl (λb c=>by have a:=p3 b d (c.bo ae) t aa 0 (d.r.n+y) 1;rw[e] at a;exact a) (λh H=>?_);obtain⟨i,I,hR⟩:=H;have Ze:h.s.l.length=p.s.l.length:=by have:=aV (λz=>z.cJ.length) (hR.trans (aV (λz=>fF z 0 _ 1) f));simpa [bq.abs,fF] using this
 have u:c7 h.abs:=by rw[hR,f];exact p7 (p7 k _ _ _) _ _ _
 refine aL ?_;refine aY (l0:=bD h) ae rfl Ab rfl (λb c=>by have a:=AY b h (c.bo ae) I u x y aa aa an aM;rw[i.trans e] at a;exact a) (λo J=>?_);obtain⟨c1,K,v⟩:=J;have A:c7 o.abs:=by rw[v];exact xB u (by simp[bq.abs];omega) (by simp[bq.abs];omega) _ _
 refine al ?_;refine aY (l0:=bD o) ae rfl pN rfl (λb c=>by have a:=p2 b o (c.bo ae) K A (x:Int);rw[c1.trans (i.trans e)] at a;exact a) (λq L=>?_);obtain⟨B,M,C⟩:=L;have N:c7 q.abs:=by rw[C];exact AX A _ _
 refine al ?_;refine aY (l0:=bD q) ae rfl pN rfl (λb c=>by have a:=p2 b q (c.bo ae) M N ((y:Int)+1);rw[B.trans (c1.trans (i.trans e))] at a;exact a) (λO P=>?_);refine aq ?_;intro Zf Q;obtain⟨R,S,T⟩:=P;exact aN O ⟨R.trans (B.trans (c1.trans (i.trans e))),S,by rw[T,C,v,hR,f,G,m];rfl⟩ Q
theorem QO (w:World) (p:bq) (D:a8 w (bD p)) (j:cU p.r) (k:c7 p.abs) (T:p.be.l.length≤1152921504600) (x y:Nat) (U:x<p.s.l.length) (V:y<p.s.l.length) (an aM:Int):
 Calls prog 397 [ptr p.g,.int .i64 (x:Int),.int .i64 (y:Int),.agg [.int .i64 an,.int .i64 aM].toArray].toArray w (hQ p (oO p.abs x y an aM) w):=by
 have E:=k.rows
 have m:=re j
 have W:=k.room
 have X:=j.n
 have Y: (p.abs.jH.length:Int)=p.r.n:=by rw[m];rfl
 simp only[bq.abs,b0,cT] at E
 refine bC func397 ntmps397 D ?_;refine ah ?_;intro Z Za Zb;refine al ?_;refine ao rfl oz rfl (λb c=>by have a:=oK b p (c.has bH) ((c.has cu: (aU (cd p.r)).pred b) p.r.an av);exact a) ?_;refine aq ?_;refine aY (l0:=bD p) ae rfl pJ rfl (λb c=>by have a:=p3 b p (c.bo ae) j aa 1 (p.r.n+y) 1;exact a) (λd F=>?_);obtain⟨e,t,f⟩:=F;have G:d.r.n=p.r.n:=by rw[re t,f,m];rfl
 have Zc:d.be.l.length=p.be.l.length+1:=by have:=aV (λz=>z.gd.length) f;simpa [bq.abs,fF] using this
 refine al ?_;refine ao rfl oz rfl (λb c=>by have a:=oK b d (c.has aQ) ((c.has bH: (aU (cd d.r)).pred b) d.r.an av);rw[e] at a;exact a) ?_;refine aq ?_;refine aY (l0:=bD d) ae rfl pJ rfl (λb c=>by have a:=p3 b d (c.bo ae) t aa 0 (d.r.n+x) 1;rw[e] at a;exact a) (λh H=>?_);obtain⟨i,I,hR⟩:=H;have Zd:h.s.l.length=p.s.l.length:=by have:=aV (λz=>z.cJ.length) (hR.trans (aV (λz=>fF z 0 _ 1) f));simpa [bq.abs,fF] using this
 have u:c7 h.abs:=by rw[hR,f];exact p7 (p7 k _ _ _) _ _ _
 refine aL ?_;refine aY (l0:=bD h) ae rfl Ab rfl (λb c=>by have a:=AY b h (c.bo ae) I u y x aa aa an aM;rw[i.trans e] at a;exact a) (λo J=>?_);obtain⟨c1,K,v⟩:=J;have A:c7 o.abs:=by rw[v];exact xB u (by simp[bq.abs];omega) (by simp[bq.abs];omega) _ _
 refine aD ?_;refine aY (l0:=bD o) ae rfl pN rfl (λb c=>by have a:=p2 b o (c.bo ae) K A ((x:Int)+1);rw[c1.trans (i.trans e)] at a;exact a) (λq L=>?_);obtain⟨B,M,C⟩:=L;have N:c7 q.abs:=by rw[C];exact AX A _ _
 refine al ?_;refine aY (l0:=bD q) ae rfl pN rfl (λb c=>by have a:=p2 b q (c.bo ae) M N ((y:Int)+1);rw[B.trans (c1.trans (i.trans e))] at a;exact a) (λi32 O=>?_);refine aq ?_;intro Ze P;obtain⟨Q,R,S⟩:=O;exact aN i32 ⟨Q.trans (B.trans (c1.trans (i.trans e))),R,by rw[S,C,v,hR,f,G,m];rfl⟩ P
end Go.Proofs.YtoghoobfpcadbaaGreatDoor.Mq
