/- part 14 of the proof -/
import Derived.Test.YtkeokgcdnfjaaaaGreatDoorQ13
namespace Go.Proofs.YtkeokgcdnfjaaaaGreatDoor.Mq
open Go Go.RowKit Go.Proofs Tryz
theorem Qc (m:Nat):e9 [.int .i32 0,.string ByteArray.empty,.int .i64 0,.int .i64 0,.int .i64 0,.int .i64 0,.int .i64 0,.int .i64 0] m=bJ.all (List.replicate m gP):=by
 induction m with
 | zero=>rfl
 | succ m a=>
  rw[mn];show e9 _ (m+1)=bJ.enc gP++bJ.all (List.replicate m gP)
  rw[←a];rfl
def la (n:Int):Nat:=(max 0 (min n 1000)).toNat
theorem Qd (w:World) (n an aM:Int):Calls prog 291 [.int .i64 n,.agg [.int .i64 an,.int .i64 aM].toArray].toArray w (jf (List.replicate (la n) (jR an aM)) w):=by
 have c:max 0 (min n 1000)=(la n:Int):=by unfold la;omega
 obtain⟨m,h⟩ : ∃m,m=la n:=⟨_,rfl⟩;rw[←h] at c ⊢
 have s:m≤1000:=by omega
 refine aW func291 ntmps291 ?_;refine ah ?_;intro d t u;refine aK ?_;refine r6 m dv rfl rfl rfl c (by simp only[maxLen];omega) aa (λa v x=>?_);refine bw ?_;refine b3 (ι:=Nat) (λi=>[(3,ptr d),(5,.slice (some ⟨a,0,none⟩) m m),(12,.int .i64 (m:Int)),(13,.int .i64 (i:Int))]) (λi=>af w [] [oG a m m (fm (List.replicate m gP) 0 i an aM),aD d [.int .i64 an,.int .i64 aM] 99]) (λi=>i≤m) (λi=>m - i) ?_ ?_;exact λw' b=>⟨0,bN _,(cu rfl rfl rfl rfl),by
  have e:fm (List.replicate m gP) 0 0 an aM=List.replicate m gP:=by simp[fm]
  rw[e];rw[Qc] at b
  exact b⟩
 intro i hi;refine al ?_;refine aj (λk=>?_) (λk=>?_);have y:i<m:=by omega
 have z: (fm (List.replicate m gP) 0 i an aM).length=m:=by rw[uM (by simp;omega),g_]
 have l:fm (List.replicate m gP) 0 (i+1) an aM=(fm (List.replicate m gP) 0 i an aM).set i (jR an aM):=by
  unfold fm;apply ml
  intro j;rw[n3];simp only[List.take_zero,qw,dG,List.drop_replicate,List.getElem?_append,b0,g_,rN];by_cases f:j<i
  simp[f,show ¬i=j by omega,show j<i+1 by omega]
  by_cases p:j=i
  subst p;simp;omega
  simp only[f,show ¬i=j by omega,show ¬j<i+1 by omega,if_false];by_cases A:j<m
  rw[ax aa,ax aa];rw[ag aa,ag aa]
 refine b5 ?_;refine ao rfl EZ rfl (λr B=>F6 r an aM) ?_;refine bD (q:=i) dv rfl rfl rfl rfl aa aa ?_;refine mu (o:=i*8) jN rfl rfl cz (by rw[Addr.add_lit,dG]) rfl (bJ.iW _) (by rw[bJ.dH];show i*8+8≤(fm (List.replicate m gP) 0 i an aM).length*8;omega) ?_;refine aC ?_;refine bg (i+1) aa aa (cu rfl rfl rfl rfl) (λw' b=>?_);rw[l];show af w [] [own 282 8 (.slice (some ⟨a,0,none⟩) m m) m (bJ.all ((fm (List.replicate m gP) 0 i an aM).set i (jR an aM))),_] w'
 rw[←sI (jR an aM) (by omega:i<(fm (List.replicate m gP) 0 i an aM).length)];exact b;refine bH ?_;intro C g;have:i=m:=by omega
 subst this;have e:fm (List.replicate i gP) 0 i an aM=List.replicate i (jR an aM):=by simp[fm]
 rw[e] at g
 exact fb.of (Value.slice (some ⟨a,0,none⟩) i i) aU (by simp only[dL,g_];exact g.aw ae)
theorem jf.au {L:List bh} {w w':World} {e:Ending} (h:jf L w e w'):fb (λi:Option Addr × Nat=>Value.slice i.1 L.length i.2) (λi=>dL (.slice i.1 L.length i.2) L) (λ_=>True) w e w':=by
 obtain⟨v,_,rfl,b,a,d,f⟩:=h;obtain⟨A,c,rfl⟩:=wi (show w'.ownsRow 0 282 8 v L.length (bJ.all L) from a);exact⟨(A,c),aU,rfl,b,a,d,f⟩
theorem AJ (w:World) (p:bq) (ai:p.an.pred w) (an aM:Int):Calls prog 202 [ptr p.g,.agg [.int .i64 an,.int .i64 aM].toArray].toArray w
 (fb (λg:bR=> .agg g.enc.toArray) bR.aF (λg=>g.fk=(List.replicate (la p.cols) (jR an aM),false)) w):=by
 refine aW func202 ntmps202 ?_;refine ah ?_;intro f i j;refine aq ?_;intro k l m;refine ah ?_;refine bG [0,1,2,3,4] 2 [[(5,false,[6]),(7,true,[])]] ?_;refine ah ?_;refine aL rfl (λn b=>(ba bM rfl rfl (λo c=>by subst c;exact b.bV ai (by (simp;done)) rfl) aG)) ?_;refine ah ?_;refine gg rfl NJ rfl (λd q=>(Qd d p.cols an aM).mono (λ_ _ h=>h.au)) (λa _=>?_);refine bY (λ_=>True) (λ_ h=> .inr (h.rem bv.head)) (λ_ h=>aU) ?_;refine aR ?_;intro r e;exact fb.of (⟨a.1,a.2,false,List.replicate (la p.cols) (jR an aM)⟩ :bR) rfl (e.aw ae)
theorem pW (w:World) (p:bq) (b:bb w (bB p)) (c:cV p.r) (o:p.be.l.length≤1152921504606) (k a n:Int):
 Calls prog 191 [ptr p.g,.int .i64 k,.int .i64 a,.int .i64 n].toArray w (hI p (fC p.abs k a n) w):=by
 refine bI func191 ntmps191 b ?_;refine bo ?_;intro q s t;refine gm (news:=jQ.enc ⟨k,a,n⟩) zm rfl rfl rfl bi (λ_=>by exact jb) rfl (jQ.iW _) (by simp only[maxLen];omega) aa (λd u=>?_);refine iX (e:=179) (sz:=3) (v:=d) iz (λdE c9 f _ _ _ _=>?_);subst f;refine ay ?_;intro x h;refine aP.bP (i:={ p with be:=⟨dE,c9,p.be.l++[⟨k,a,n⟩]⟩ }) ⟨rfl,c,rfl⟩ rfl ?_;have j: (p.be.l++[(⟨k,a,n⟩ :ed)]).length=p.be.l.length+1:=by simp
 have m:jQ.all (p.be.l++[(⟨k,a,n⟩ :ed)])=jQ.all p.be.l++jQ.enc ⟨k,a,n⟩:=bA.hc jQ _ _
 refine af.aw h (cs':=[]) ?_;simp only[bB,bq.an,nq,lL.val,lL.au,j,m];exact aA.cons bi ae
section
theorem bn.Qe {cs cs':List Chunk} {c c':Chunk} (h:bn cs c c' cs'):Has cs' c':=by
 induction h with
 | head=>exact Has.head
 | tail _ a=>exact Has.tail a
section
variable {P:Program} {n:Nat} {ops:Array Oper} {Q:cl} {rest:List Oper} {l:Fr} {d:Nat} {ty:TypeId} {pos:String} {a6:Array Edge}
variable {b:World} {S:List Nat} {cs:List Chunk}
theorem pX {α:Type} {E:bA α} {x y:Operand} {t e g:Nat} {z:List Value} {v:Value} {m:Nat} {xs:List Value} {A:Option Addr} {k c:Nat} {src:List α} {F:Nat→Prop} {cs':Value→List Chunk} (N:Nat) (j:m+k=N) (o:cY P t e E.sz g z) (ak:Nat.blt d n=true)
 (p:a_ l x=some v) (q:a_ l y=some (.slice A k c)) (i: ∀a,bn cs (own e E.sz v m xs) (own e E.sz a N (xs++E.all src)) (cs' a))
 (r: ∀w,af b S cs w→Rd E w F A k c src) (s:m+k≤maxLen) (u: (m+k)*g≤140737488355328)
 (h: ∀f c',az P n ops Q rest ((d,.slice f N c')::l) (af b S (cs' (.slice f N c')))):
 az P n ops Q (⟨some d,.call ⟨.builtin .append,#[x,y],#[t,t]⟩,ty,pos,a6,none⟩::rest) l (af b S cs):=by
 subst j;exact ol o ak p q i r s u (λa _=>iX (i a).Qe (λf c' B _ _ _ _=>by subst B;exact h f c'))
end
abbrev sL (L:bQ) (w:World):=fb (λg:bR=>Value.agg g.enc.toArray) bR.aF (λg=>g.fk=L) w
theorem Ga (w:World) (F:Nat→Prop) (A:Option Addr) (n c:Nat) (L:List bh) (a:Bool) (d:Rd bJ w F A n c L) (k:n≤1000000):Calls prog 96 [.agg [.slice A n c,.bool a].toArray].toArray w (sL (L,a) w):=by
 have e:=d.len
 refine aW func96 ntmps96 ?_;refine ah ?_;intro l o p;refine aq ?_;intro q r s;refine ah ?_;refine jM 282 8 ?_;refine ew [0,1,3,4] 2 [[(2,false,[5]),(6,true,[])]] (_) mixed ab (λ_ b=>b.drew) (λ_ h=>h.rem bv.head) ?_;refine al ?_;refine pX (E:=bJ) (m:=0) (xs:=[]) L.length aa dv rfl rfl rfl (λ_=>by exact cz) (λw' f=>d.ext f.ext av) (by simp only[maxLen];omega) aa (λg i=>?_);refine bY (λ_=>True) (λ_ h=> .inr (h.rem bv.head)) (λ_ h=>aU) ?_;refine aR ?_;intro t b;have j:n=L.length:=e.symm
 subst j;exact fb.of (⟨g,i,a,L⟩ :bR) rfl (b.aw ae)
theorem Qf (w:World) (F:Nat→Prop) (A:Option Addr) (n c:Nat) (L:List bh) (a:Bool) (d:Rd bJ w F A n c L) (k:n≤1000000):Calls prog 65 [.agg [.slice A n c,.bool a].toArray].toArray w (sL (L,a) w):=by
 have e:=d.len
 refine aW func65 ntmps65 ?_;refine ah ?_;intro l o p;refine aq ?_;intro q r s;refine ah ?_;refine jM 282 8 ?_;refine ew [0,1,3,4] 2 [[(2,false,[5]),(6,true,[])]] (_) mixed ab (λ_ b=>b.drew) (λ_ h=>h.rem bv.head) ?_;refine al ?_;refine pX (E:=bJ) (m:=0) (xs:=[]) L.length aa dv rfl rfl rfl (λ_=>by exact cz) (λw' f=>d.ext f.ext av) (by simp only[maxLen];omega) aa (λg i=>?_);refine bY (λ_=>True) (λ_ h=> .inr (h.rem bv.head)) (λ_ h=>aU) ?_;refine aR ?_;intro t b;have j:n=L.length:=e.symm
 subst j;exact fb.of (⟨g,i,a,L⟩ :bR) rfl (b.aw ae)
theorem pY {r:dh} (h:cV r) {i:Int} (a:0≤i) (hi:i<r.s.l.length):0≤eq r i∧eq r i<r.s.l.length:=by
 have b:=h.first
 unfold eq;split <;> omega
def pZ (r:dh) (i:Nat):bQ:=((r.s.l[(eq r i).toNat]?).map bR.fk).getD ([],false)
theorem p0 (r:dh) (i:Nat):r.rows[i]? = if i<r.n.toNat then some (pZ r i) else none:=by
 unfold dh.rows pZ;rw[eJ];by_cases h:i<r.n.toNat
 rw[ax h,rM h];rfl
 rw[ag h,kg (by simpa using h)];rfl
theorem lb (r:dh):r.rows.length=r.n.toNat:=by simp[dh.rows]
def ku (r:dh):dh:={ r with s:={ r.s with l:=r.s.l.set r.first.toNat je },first:=eq r 1,n:=r.n - 1,gone:=(r.gone+1)%18446744073709551616 }
theorem Qg {r:dh} (h:cV r) (a:1≤r.n):cV (ku r):=by
 have b:=h.n;have c:=h.first;have d:=h.gone
 have e:=pY h (i:=1) aa
 refine⟨by simpa [ku] using h.len,h.room,?_,?_,?_⟩;simp only[ku,fT];omega
 simp only[ku,fT];unfold eq;split <;> omega
 simp only[ku];omega
theorem Qh {r:dh} (h:cV r) (c:1≤r.n): (ku r).rows=r.rows.tail:=by
 have d:=h.n;have f:=h.first
 apply ml
 intro i;rw[List.getElem?_tail,p0,p0];by_cases hi:i+1<r.n.toNat
 ·rw[ax hi,ax (by simp only[ku];omega)]
  have e:eq (ku r) i=eq r ((i+1 :Nat):Int):=by
   simp only[eq,ku,fT];repeat' split
   all_goals omega
  have a:=pY h (i:=((i+1 :Nat):Int)) aa aa
  have b:r.first.toNat≠(eq r ((i+1 :Nat):Int)).toNat:=by
   unfold eq at a ⊢
   split at a <;> split <;> omega
  unfold pZ;rw[e];simp only[ku];rw[jr b]
 ·rw[ag hi,ag (by simp only[ku];omega)]
def kv (r:dh) (g:bR):dh:={ r with s:={ r.s with l:=r.s.l.set (eq r r.n).toNat g },n:=r.n+1 }
theorem Qi {r:dh} (h:cV r) (c:r.n<r.s.l.length) (g:bR):cV (kv r g):=by
 have d:=h.n;have a:=h.first;have b:=h.gone
 exact⟨by simpa [kv] using h.len,h.room,by simp only[kv,fT];omega,by simpa [kv] using a,b⟩
theorem Qj {r:dh} (h:cV r) (c:r.n<r.s.l.length) (g:bR): (kv r g).rows=r.rows++[g.fk]:=by
 have k:=h.n;have m:=h.first
 have b:=pY h (i:=r.n) aa c
 apply ml
 intro i;rw[List.getElem?_append,p0,lb];have e: ∀j:Int,eq (kv r g) j=eq r j:=λj=>by simp[eq,kv]
 by_cases hi:i<r.n.toNat
 rw[ax hi,ax (by simp only[kv];omega),p0,ax hi];have d: (eq r r.n).toNat≠(eq r (i:Int)).toNat:=by
  have a:=pY h (i:=(i:Int)) aa aa
  unfold eq at b a ⊢
  split at b <;> split at a <;> omega
 unfold pZ;rw[e];simp only[kv];rw[jr d];rw[ag hi];by_cases a:i=r.n.toNat
 subst a;rw[ax (by simp only[kv];omega),mX];unfold pZ;rw[e];have f: ((r.n.toNat:Nat):Int)=r.n:=by omega
 rw[f];simp only[kv];rw[List.getElem?_set_self aa];rfl
 rw[ag (by simp only[kv];omega),kg (by simp;omega)]
end
theorem Gb {b w:World} {S:List Nat} {cs cs':List Chunk} {r r':dh} {k:Nat} {z g:bR} {xs:List Value} (a:r.s.l[k]? = some z) (d:r'.s.A=r.s.A) (f:r'.s.c=r.s.c) (h:r'.s.l=r.s.l.set k g) (i:xs=cf.all (r.s.l.set k g)) (j:af b S cs w)
 (m:aA cs [g.aF,r.s.cc,aD r'.g [r.s.val,.int .i64 r'.room,.int .i64 r'.first,.int .i64 r'.n,.int .u64 r'.gone] 203,own 157 2 r.s.val r.s.l.length xs] cs'):af b S (b9 r') w:=by
 have o:=j.aw m
 have aH:=o.Av (k:=k) (c:=z.aF) (by simp[a])
 have e:b9 r'=[aD r'.g [r.s.val,.int .i64 r'.room,.int .i64 r'.first,.int .i64 r'.n,.int .u64 r'.gone] 203,own 157 2 r.s.val r.s.l.length xs,aT ((r.s.l.map bR.aF).set k g.aF)]:=by
  subst i;simp only[b9,dh.an,Aw,db.val,db.au,db.cc,d,f,h,fT,n5]
 rw[e];exact aH.aw ae
theorem af.Qk {b w:World} {S:List Nat} {cs:List Chunk} (h:af b S cs w):af b S (je.aF::cs) w:=h.mZ ⟨rfl,.inl ⟨rfl,rfl⟩⟩ rfl
theorem Ql (w:World) (r:dh) (e:bb w (b9 r)) (a:cV r) (A:1≤r.n):Calls prog 353 [ptr r.g].toArray w (aP (λg:bR=> .agg g.enc.toArray) (b9 r) (λ_=>b9 (ku r)) (λ_=>True) w):=by
 have B:=a.n;have C:=a.first;have D:=a.len;have F:=a.room;have G:=a.gone
 obtain⟨g,b⟩:=q5 (r:=r.s) (e.all _ av) aa;have f:r.s.val= .slice (some ⟨g,0,none⟩) r.s.l.length r.s.c:=by rw[db.val,b]
 obtain⟨z,k⟩ : ∃z,r.s.l[r.first.toNat]? = some z:=⟨r.s.l[r.first.toNat]'aa,bE _⟩;have H:=pY a (i:=1) aa
 refine bI func353 ntmps353 e ?_;refine ah ?_;intro I J K;refine ah ?_;refine bG [0,1,2,3,4,5,6,7,8,9] 2 [[(10,false,[]),(11,true,[])]] ?_;refine aK ?_;refine aL rfl (λm d=>(bD (q:=r.first.toNat) dI rfl rfl rfl b aa aa aG)) ?_;refine aL rfl (λm d=>(cw gL rfl rfl rfl (λL p j u t=>by subst p;exact d.xn (E:=cf) cp f k j u t) aG)) ?_;refine ah ?_;intro M N O;refine bY (λ_=>True) (λ_ h=> .inr (h.rem bv.head)) (λ_ h=>aU) ?_;refine aK ?_;refine bG [0,1,2,3,4,5,6,7,8,9] 1 [[(10,true,[])]] ?_;refine aJ ?_;refine aL rfl (λm d=>(bD (q:=r.first.toNat) dI rfl rfl rfl b aa aa aG)) ?_;refine ar ?_;refine xo f (o:=r.first.toNat*2) gL rfl rfl nj (by rw[Addr.add_lit,dG]) rfl (cf.iW je) (by rw[cf.dH];show r.first.toNat*2+2≤r.s.l.length*2;omega) ?_;refine aK ?_;refine ao rfl wD rfl (λv x=>xf v r (x.has cp) _ aa aa aa) ?_;refine nl ?_;refine gH (r:=(r.gone+1)%18446744073709551616) rfl rfl rfl (by simp[IntKind.wrap,IntKind.bits,IntKind.signed]) ?_;refine bH ?_;intro P y;exact aP.bP (i:=z) aU rfl (Gb (r':=ku r) (g:=je) k rfl rfl rfl (bA.iY cf je aa) (af.Qk y) ae)
theorem Gc (w:World) (r:dh) (e:bb w (b9 r)) (a:cV r):Calls prog 195 [ptr r.g].toArray w (aP (λ_:dh=> .int .i64 r.n) (b9 r) b9 (λz=>z.g=r.g∧z.room=r.room∧cV z∧z.rows=[]) w):=by
 have l:=a.n;have m:=a.first;have o:=a.len;have f:=a.room;have p:=a.gone
 refine bI func195 ntmps195 e ?_;refine aK ?_;refine ao rfl zy rfl (λh b=>Ax h r (b.has aQ)) ?_;refine aR ?_;refine aj (λj=>?_) (λj=>?_);refine kq ?_;refine dl rfl rfl underlying3 underlying34 (r:=r.n) (by simp[IntKind.wrap,IntKind.bits,IntKind.signed];omega) ?_;refine gH (r:=(r.gone+r.n)%18446744073709551616) rfl rfl rfl (by simp[IntKind.wrap,IntKind.bits,IntKind.signed]) ?_;refine bH ?_;intro k d;exact aP.bP (i:=(⟨r.g,⟨none,0,[]⟩,r.room,0,0,(r.gone+r.n)%18446744073709551616⟩ :dh)) ⟨rfl,rfl,⟨by simp;omega,f,by simp,by simp,by simp;omega⟩,rfl⟩ rfl ((af.mZ (af.mZ d (c:=aT []) (λc b=>by simp at b) rfl) (c:=own 157 2 (.slice none 0 0) 0 []) ⟨rfl,.inl ⟨rfl,rfl⟩⟩ rfl).aw ae);refine aR ?_;intro k d;exact aP.bP (i:=r) ⟨rfl,rfl,a,iR (by rw[lb];omega)⟩ rfl d
theorem af.AK {b w:World} {S:List Nat} {cs l1 l2:List Chunk} (h:af b S (aT l1::aT l2::cs) w):af b S (aT (l1++l2)::cs) w:=by
 have a:=h.k4
 have c:af b S (aT l2::(l1++cs)) w:=a.perm n_
 have d:=c.k4
 refine af.close' (d.perm ?_);rw[←e0];exact List.Perm.append_right _ n9
theorem Qm (m:Nat):e9 [.slice none 0 0,.bool false] m=cf.all (List.replicate m je):=by
 induction m with
 | zero=>rfl
 | succ m a=>
  rw[mn];show e9 _ (m+1)=cf.enc je++cf.all (List.replicate m je)
  rw[←a];rfl
def iD (r:dh):List bR:=r.s.l.drop r.first.toNat++r.s.l.take r.first.toNat
theorem Gd {r:dh} (h:cV r) {i:Nat} (hi:i<r.s.l.length): (iD r)[i]? = r.s.l[(eq r i).toNat]? :=by
 have b:=h.first
 unfold iD eq;rw[List.getElem?_append,fz,mm,is];by_cases a:i<r.s.l.length - r.first.toNat
 rw[ax a,ag aa];congr 1;omega
 rw[ag a,ax aa,ax aa];congr 1;omega
theorem AL {r:dh} (h:cV r): (iD r).length=r.s.l.length:=by
 have a:=h.first
 simp only[iD,b0,fz,dn];omega
def jT (r:dh):Int:=min r.room (max 4 (2*(r.s.l.length:Int)))
def iE (r:dh) (g:Nat):dh:={ r with s:=⟨some ⟨g,0,none⟩,(jT r).toNat,iD r++List.replicate ((jT r).toNat - r.s.l.length) je⟩,first:=0 }
theorem Ge {r:dh} {g:Nat} (h:cV r): (iE r g).s.l.length=(jT r).toNat:=by
 have a:=h.len;have b:=h.room
 simp only[iE,b0,AL h,g_,jT];omega
theorem Gf {r:dh} (h:cV r) (d:r.n=r.s.l.length) (e:r.n<r.room) (g:Nat):cV (iE r g)∧(iE r g).n<(iE r g).s.l.length:=by
 have f:=h.len;have b:=h.room;have i:=h.n;have c:=h.gone
 have a:=Ge (g:=g) h
 have j:r.n<jT r:=by unfold jT;omega
 refine⟨⟨?_,b,?_,?_,c⟩,?_⟩;rw[a];simp only[iE];unfold jT at *;omega
 rw[a];simp only[iE];omega
 rw[a];simp only[iE];omega
 rw[a];simp only[iE];omega
theorem Qn {r:dh} (h:cV r) (c:r.n=r.s.l.length) (d:r.n<r.room) (g:Nat): (iE r g).rows=r.rows:=by
 have f:=h.len;have j:=h.room;have k:=h.n
 have a:=Ge (g:=g) h
 have m:r.n<jT r:=by unfold jT;omega
 apply ml
 intro i;rw[p0,p0];by_cases hi:i<r.n.toNat
 rw[ax hi,ax (by simp only[iE];omega)];have e:eq (iE r g) i=i:=by
  have b: (iE r g).first=0:=rfl
  unfold eq;rw[a,b];split <;> omega
 unfold pZ;rw[e];simp only[iE,gZ];rw[mW (by rw[AL h];omega),Gd h aa];rw[ag hi,ag (by simp only[iE];omega)]
theorem Qo (w:World) (r:dh) (m:bb w (b9 r)) (a:cV r) (R:r.n=r.s.l.length) (S:r.n<r.room):Calls prog 354 [ptr r.g].toArray w (aP (λ_:Nat=> .tuple #[]) (b9 r) (λg=>b9 (iE r g)) (λ_=>True) w):=by
 have T:=a.n;have U:=a.first;have V:=a.len;have W:=a.room;have X:=a.gone
 have Y:r.n<jT r:=by unfold jT;omega
 obtain⟨sz,p⟩ : ∃sz:Nat,jT r=(sz:Int):=⟨(jT r).toNat,aa⟩;have Z: (sz:Int)≤100000:=by rw[←p];unfold jT;omega
 have Za:=AL a
 refine bI func354 ntmps354 m ?_;refine aq ?_;refine oi ([(0,ptr r.g),(2,.int .i64 (sz:Int))]) (af w (aB (b9 r)) (b9 r)) ?_ ?_
 ·refine bG [0,1,2,3,4,5,6,7,8,9,10,11,12] 0 [[]] ?_
  refine aJ ?_;refine aL rfl (λf d=>(kV rfl rfl rfl (wrap64 aa aa) aG)) ?_;refine ay ?_;refine gn ?_ (λ_ h=>h);rw[←p];exact (iA rfl rfl)
 ·refine aS ?_
  refine r6 sz dI rfl rfl rfl rfl (by simp only[maxLen];omega) aa (λb Zb Zc=>?_);refine b5 ?_;refine b3 (ι:=Nat) (λi=>[(0,ptr r.g),(3,.slice (some ⟨b,0,none⟩) sz sz),(22,.int .i64 r.n),(23,.int .i64 (i:Int))]) (λi=>af w (aB (b9 r)) (own 157 2 (.slice (some ⟨b,0,none⟩) sz sz) sz (cf.all ((iD r).take i++List.replicate (sz - i) je))::b9 r)) (λi=>(i:Int)≤r.n) (λi=>r.n.toNat - i) ?_ ?_
  ·exact λw' e=>⟨0,aa,(cu rfl rfl rfl rfl),by
    rw[Qm] at e
    simpa using e⟩
  ·intro i hi
   refine al ?_;refine aj (λy=>?_) (λy=>?_)
   ·obtain⟨g,t⟩:=q5 (r:=r.s) (m.all _ av) aa
    have A:r.s.val= .slice (some ⟨g,0,none⟩) r.s.l.length r.s.c:=by rw[db.val,t]
    have Zd:=pY a (i:=(i:Int)) aa aa
    obtain⟨z,v⟩ : ∃z,r.s.l[(eq r i).toNat]? = some z:=⟨r.s.l[(eq r i).toNat]'aa,bE _⟩;have B: (iD r)[i]? = some z:=by rw[Gd a aa];exact v
    have C: (iD r).take (i+1)++List.replicate (sz - (i+1)) je=((iD r).take i++List.replicate (sz - i) je).set i z:=by
     have D: ((iD r).take i).length=i:=by rw[dn];omega
     rw[fU,B,rQ _ _ aa,D,mX,show sz - i=(sz - (i+1))+1 by omega,mn,mo];simp
    have F: ((iD r).take i++List.replicate (sz - i) je).length=sz:=by
     simp only[b0,dn,g_];omega
    refine aR ?_;refine bG [0,1,2,3,4,5,6,7] 2 [[(8,false,[9,10,11]),(12,true,[])]] ?_;refine aR ?_;refine ao rfl wD rfl (λG k=>xf G r (k.has bF) _ aa aa aa) ?_;refine bY (_) (λ_ h=> .inr h) (λ_ h=>h) ?_;refine aL rfl (λf d=>(bD (q:=(eq r i).toNat) dI rfl rfl rfl t aa aa aG)) ?_;refine aL rfl (λf d=>(cw gL rfl rfl rfl (λZe H j u I=>by subst H;exact d.xn (E:=cf) cp A v j u I) aG)) ?_;refine aL rfl (λf d=>(bD (q:=i) dI rfl rfl rfl rfl aa aa aG)) ?_;refine ar ?_;refine mu (o:=i*2) gL rfl rfl cz (by rw[Addr.add_lit,dG]) rfl (cf.iW z) (by rw[cf.dH,F];show i*2+2≤sz*2;omega) ?_;refine aJ ?_;refine bg (i+1) aa aa (cu rfl rfl rfl rfl) (λw' e=>?_);rw[C,←bA.iY cf z aa];exact e
   ·have J:i=r.s.l.length:=by omega
    refine ef ?_;intro K x;have L: (iD r).take i=iD r:=eu aa
    rw[L,J] at x
    have M: (jT r).toNat=sz:=by omega
    refine aP.of (b:Nat) aU ?_;have N:=x.aw (l:=[r.s.cc,aD r.g [.slice (some ⟨b,0,none⟩) sz sz,.int .i64 r.room,.int .i64 0,.int .i64 r.n,.int .u64 r.gone] 203,own 157 2 (.slice (some ⟨b,0,none⟩) sz sz) sz (cf.all (iD r++List.replicate (sz - r.s.l.length) je))]) ae
    have ai:List.Perm (r.s.l.map bR.aF) ((iD r).map bR.aF):=by
     refine List.Perm.map _ ?_;unfold iD;conv=>lhs;rw[←iT r.first.toNat r.s.l]
     exact n9
    have aH:=N.F1 ai
    have O:af w _ (aT ((iD r).map bR.aF)::aT (List.replicate (sz - r.s.l.length) je.aF)::_) K:=(af.mZ aH (c:=aT (List.replicate (sz - r.s.l.length) je.aF)) (λc k=>by rw[mV k];exact⟨rfl,.inl ⟨rfl,rfl⟩⟩) (by simp[aT,aB,own,Value.ownBlock])).perm (List.Perm.swap _ _ _)
    have P:=O.AK
    have Q: (iD r++List.replicate (sz - r.s.l.length) je).length=sz:=by
     simp only[b0,g_];omega
    simp only[b9,dh.an,Aw,db.val,db.au,db.cc,iE,M,Q,gb,List.map_replicate];exact P.aw ae
def oI (h:List bQ) (room:Int) (r:bQ):List bQ:=if room=0 then h else (if (h.length:Int)=room then h.tail else h)++[r]
theorem AM (w:World) (r:dh) (T:bb w (b9 r)) (d:cV r) (F:Nat→Prop) (A:Option Addr) (n c:Nat) (L:List bh) (B:Bool) (U:Rd bJ w F A n c L) (V: ∀k,F k→k∉aB (b9 r)) (W:n≤1000000):
 Calls prog 273 [ptr r.g,.agg [.slice A n c,.bool B].toArray].toArray w
  (aP (λi:List Value × dh=> .tuple #[.agg i.1.toArray,.bool (decide (r.n=r.room))]) (b9 r) (λi=>b9 i.2) (λi=>i.2.g=r.g∧i.2.room=r.room∧cV i.2∧i.2.rows=oI r.rows r.room (L,B)∧i.1.length=2∧aI i.1) w):=by
 have X:=d.n;have Y:=d.first;have Z:=d.len;have Za:=d.room;have Zp:=d.gone
 refine bI func273 ntmps273 T ?_;refine ah ?_;intro t Zq Zr;refine aq ?_;intro u Zs Zt;refine dB ?_;refine gg rfl Ei rfl (λj m=>Ga j F A n c L B (U.ext m.ext V) W) (λa Zb=>?_);refine bH ?_;refine aj (λC=>?_) (λC=>?_);refine al ?_;refine gH (r:=(r.gone+1)%18446744073709551616) rfl rfl rfl (by simp[IntKind.wrap,IntKind.bits,IntKind.signed]) ?_;refine b5 ?_;refine h_ results273 (cx.eR gL rfl bF rfl rfl) (cx.tmp rfl) (λZc D=>?_);exact aP.bP (i:=(a.enc,{ r with gone:=(r.gone+1)%18446744073709551616 })) ⟨rfl,rfl,⟨Z,Za,X,Y,by simp only;omega⟩,by rw[oI,ax C];rfl,rfl,cf.iW a⟩ (by rw[b1 (by omega:r.n=r.room)];rfl) (D.aw ae);refine ay ?_;intro x Zu Zv;refine ah ?_;refine bG [0,1,2,3,4,5,6,7,8,9] 0 [[]] ?_;refine cE ?_;have Zw:=lb r
 refine aS ?_;refine hC (λi:Value × Value × dh=>[(0,ptr r.g),(3,ptr t),(4,ptr u),(6,ptr x),(7,.bool (decide (r.n=r.room)))]) (λi=>af w (aB (b9 r)) (aD x [i.1,i.2.1] 157::a.aF::aD u [.slice none 0 0,.bool false] 157::aD t a.enc 157::b9 i.2.2)) (λi=>aI [i.1,i.2.1]∧i.2.2.g=r.g∧i.2.2.room=r.room∧cV i.2.2∧i.2.2.n<i.2.2.room∧i.2.2.rows=(if (r.rows.length:Int)=r.room then r.rows.tail else r.rows)) ?_ ?_;refine aj (λZd=>?_) (λZd=>?_);refine ar ?_;refine aZ ae rfl Og rfl (λj m=>Ql j r (m.bp ae) d aa) (λy Zx=>?_);refine ar ?_;refine dr (.slice y.A y.cells.length y.c,.bool y.cont,ku r) ⟨aI.cons rfl (aI.cons rfl aI.nil),rfl,rfl,Qg d aa,by show r.n - 1<r.room;omega,?_⟩ (ec rfl rfl rfl rfl rfl) (λ_ h=>af.aw h ae);rw[Qh d aa,ax aa];refine aq ?_;refine dr (.slice none 0 0,.bool false,r) ⟨aI.cons rfl (aI.cons rfl aI.nil),rfl,rfl,d,by show r.n<r.room;omega,?_⟩ (ec rfl rfl rfl rfl rfl) (λ_ h=>af.aw h ae);rw[ag aa];rintro⟨M,N,hb⟩ ⟨E,O,G,b,p,H⟩;dsimp only at E O G b p H ⊢
 rw[←O];have Zy:=b.n;have Zz:=b.first;have ZA:=b.len;have ZB:=b.room
 refine ah ?_;refine bG [0,1,2,3,4,5,6,7,8,9] 0 [[]] ?_;refine bH ?_;refine hC (λi:Value × Value × dh=>[(0,ptr hb.g),(3,ptr t),(4,ptr u),(6,ptr x),(7,.bool (decide (r.n=r.room)))]) (λi=>af w (aB (b9 r)) (aD x [i.1,i.2.1] 157::a.aF::aD u [.slice none 0 0,.bool false] 157::aD t a.enc 157::b9 i.2.2)) (λi=>aI [i.1,i.2.1]∧i.2.2.g=hb.g∧i.2.2.room=r.room∧cV i.2.2∧i.2.2.n<i.2.2.room∧i.2.2.rows=(if (r.rows.length:Int)=r.room then r.rows.tail else r.rows)∧i.2.2.n<i.2.2.s.l.length) ?_ ?_;refine aj (λZe=>?_) (λZe=>?_);refine ar ?_;refine aZ ae rfl Oh rfl (λj m=>Qo j hb (m.bp ae) b aa p) (λI _=>?_);refine aq ?_;refine dr (M,N,iE hb I) ⟨E,rfl,G,(Gf b aa p I).1,p,?_,(Gf b aa p I).2⟩ (ec rfl rfl rfl rfl rfl) (λ_ h=>af.aw h ae);rw[Qn b aa p];exact H
 refine aq ?_;exact dr (M,N,hb) ⟨E,rfl,G,b,p,H,by show hb.n<hb.s.l.length;omega⟩ bO (λ_ h=>h);rintro⟨Zf,Zg,e_⟩ ⟨J,P,Q,f,Zh,R,K⟩;dsimp only at J P Q f Zh R K ⊢
 rw[←P];have ZC:=f.n;have ZD:=f.first;have ZE:=f.len;have ZF:=f.room
 have ZG:=pY f (i:=e_.n) aa aa
 refine hv (e:=157) (sz:=2) (v:=e_.s.val) kp (λdE c9 Zi _ _ _ Zj=>?_);injection Zi with Zk _ Zl
 subst Zk Zl;obtain⟨Zm,S⟩:=Zj aa;have Zn:e_.s.val= .slice (some ⟨Zm,0,none⟩) e_.s.l.length e_.s.c:=by rw[db.val,S]
 obtain⟨z,Zo⟩ : ∃z,e_.s.l[(eq e_ e_.n).toNat]? = some z:=⟨e_.s.l[(eq e_ e_.n).toNat]'aa,bE _⟩;refine aq ?_;refine bG [0,1,2,3,4,5,6,7,8,10] 2 [[(9,false,[11]),(12,true,[])]] ?_;refine bw ?_;refine ao rfl wD rfl (λj m=>xf j e_ (m.has iz) _ aa aa aa) ?_;refine aq ?_;refine aL rfl (λZH ZI=>(bD (q:=(eq e_ e_.n).toNat) dI rfl rfl rfl S aa aa aG)) ?_;refine ar ?_;refine xo Zn (o:=(eq e_ e_.n).toNat*2) gL rfl rfl ss (by rw[Addr.add_lit,dG]) rfl (cf.iW a) (by rw[cf.dH];show (eq e_ e_.n).toNat*2+2≤e_.s.l.length*2;omega) ?_;refine hh ?_;refine eX gL rfl rfl k6 rfl J (dT rfl) ?_;refine aS ?_;refine h_ results273 (cx.eR gL rfl cp rfl rfl) (cx.tmp rfl) (λZc D=>?_);refine aP.bP (i:=([Zf,Zg],kv e_ a)) ⟨rfl,Q,Qi f K _,?_,rfl,J⟩ rfl (Gb (r':=kv e_ a) (g:=a) Zo rfl rfl rfl (bA.iY cf a aa) D ae);rw[Qj f K,Zb,oI,ag C,R]
theorem Gg {P:Program} {n:Nat} {ops:Array Oper} {Q:cl} {rest:List Oper} {l:Fr} {d:Nat} {ty:TypeId} {pos:String} {a6:Array Edge} {b:World} {S:List Nat} {cs:List Chunk} {α:Type} {E:bA α} {x y:Operand} {t e i:Nat} {z:List Value} {v0:Value} {g m c a c1:Nat} {f:Option Addr} {L:List α} {A:Option Addr} {k c':Nat} {src:List α} {F:Nat→Prop} {cs':List Chunk} (j:v0= .slice (some ⟨g,0,none⟩) m c) (p r:Nat) (o:r=min k a) (q:cY P t e E.sz i z) (ak:Nat.blt d n=true)
 (s:a_ l x=some (.slice f a c1)) (u:a_ l y=some (.slice A k c')) (ai:0<r→f=some ⟨g,p*E.sz,none⟩) (v:p+r≤L.length)
 (B:bn cs (own e E.sz v0 m (E.all L)) (own e E.sz v0 m (E.all (L.take p++src.take r++L.drop (p+r)))) cs')
 (C: ∀w,af b S cs w→Rd E w F A k c' src)
 (h:az P n ops Q rest ((d,.int .i64 (r:Int))::l) (af b S cs')):
 az P n ops Q (⟨some d,.call ⟨.builtin .copy,#[x,y],#[t,t]⟩,ty,pos,a6,none⟩::rest) l (af b S cs):=by
 subst j;exact xh p r o q ak s u ai v B C h
def gR {α:Type} (l:List α) (a b:Nat) (r:α):List α:=
 if a<b then l.take a++(l.drop (a+1)).take (b - a)++[r]++l.drop (b+1) else l.take b++[r]++(l.drop b).take (a - b)++l.drop (a+1)
theorem AN {α:Type} {l:List α} {a b:Nat} {r:α} (c:a<l.length) (d:b<l.length): (gR l a b r).length=l.length:=by
 unfold gR;split <;> simp only[b0,dn,fz,eK,jL] <;> omega
theorem Qp {α c:Type} (f:α→c) (l:List α) (a b:Nat) (r:α): (gR l a b r).map f=gR (l.map f) a b (f r):=by
 unfold gR;split <;> simp[List.map_take,List.map_drop]
theorem Qq {α:Type} {l:List α} {a b:Nat} {r:α} (c:a<l.length) (d:b<l.length):List.Perm (l.set a r) (gR l a b r):=by
 rw[qz,ax c];unfold gR;split
 have e:l.drop (a+1)=(l.drop (a+1)).take (b - a)++l.drop (b+1):=by
  conv=>lhs;rw[←iT (b - a) (l.drop (a+1))]
  rw[mj,show a+1+(b - a)=b+1 by omega]
 conv=>lhs;rw[e]
 simp only[e0];refine List.Perm.append_left _ ?_;rw[←rR (x:=r),←e0,←e0];exact List.Perm.append_right _ n9;have e:l.take a=l.take b++(l.drop b).take (a - b):=by
  conv=>lhs;rw[show a=b+(a - b) by omega,List.take_add]
 rw[e];simp only[e0];refine List.Perm.append_left _ ?_;rw[←rR (x:=r),←e0,←e0];exact List.Perm.append_right _ n9
theorem Qr {α:Type} {l:List α} {a b:Nat} {r:α} (c:a<b) (d:b<l.length): (l.take a++((l.take (b+1)).drop (a+1)).take (b - a)++l.drop (a+(b - a))).set b r=gR l a b r:=by
 rw[gR,ax c,show a+(b - a)=b by omega];have e: ((l.take (b+1)).drop (a+1)).take (b - a)=(l.drop (a+1)).take (b - a):=by
  rw[List.drop_take,List.take_take,show min (b - a) (b+1 - (a+1))=b - a by omega]
 rw[e,rQ _ _ (by simp;omega)];have f:b - (l.take a++(l.drop (a+1)).take (b - a)).length=0:=by simp;omega
 rw[f,kR d,mo];simp
theorem Qs {α:Type} {l:List α} {a b:Nat} {r:α} (c: ¬a<b) (f:a<l.length): (l.take (b+1)++((l.take a).drop b).take (a - b)++l.drop (b+1+(a - b))).set b r=gR l a b r:=by
 rw[gR,ag c,show b+1+(a - b)=a+1 by omega];have d: ((l.take a).drop b).take (a - b)=(l.drop b).take (a - b):=by
  rw[List.drop_take,List.take_take,Nat.min_self]
 rw[d,e0,List.set_append_left _ _ (by simp;omega)];have e: (l.take (b+1)).set b r=l.take b++[r]:=by
  rw[fU,bE aa,pm,rQ _ _ (by simp only[dn];omega)];have:b - (l.take b).length=0:=by simp;omega
  rw[this];rfl
 rw[e];simp
def q6 (p:bq) (l:List bR):bq:={ p with s:={ p.s with l:=l } }
theorem AO {w:World} {r:db} (a:r.au.pred w):Rd cf w (λ_=>True) r.A r.l.length r.c r.l:=by
 obtain⟨A,c,b,d⟩:=Rd.fX (E:=cf) (show w.ownsRow 0 157 cf.sz r.val r.l.length (cf.all r.l) from a) rfl;injection b with e g f
 subst e f;exact d.dC (λ_ _=>aU)
theorem Gh {b w:World} {S:List Nat} {cs cs':List Chunk} {p:bq} {x y:Nat} {g:bR} {xs:List Value} (a:x<p.s.l.length) (d:y<p.s.l.length) (f:xs=cf.all (gR p.s.l x y g)) (h:af b S cs w)
 (i:aA cs [g.aF,p.s.cc,p.an,aT (b9 p.r),own 157 2 p.s.val p.s.l.length xs,p.be.au] cs'):af b S (bB (q6 p (gR p.s.l x y g))) w:=by
 have j:=h.aw i
 have aH:=j.Av (k:=x) (c:=(p.s.l[x]'a).aF) (by simp[a])
 have m:=aH.F1 (l':=(gR p.s.l x y g).map bR.aF) (by
  rw[←n5];exact List.Perm.map _ (Qq a d))
 have n:=AN (r:=g) a d
 have e:bB (q6 p (gR p.s.l x y g))=[p.an,aT (b9 p.r),own 157 2 p.s.val p.s.l.length xs,aT ((gR p.s.l x y g).map bR.aF),p.be.au]:=by
  subst f;simp only[bB,q6,bq.an,nq,db.val,db.au,db.cc,n]
 rw[e];exact m.aw ae
theorem Qt (w:World) (p:bq) (j:bb w (bB p)) (A:cZ p.abs) (x y:Nat) (k:x<p.s.l.length) (m:y<p.s.l.length) (an aM:Int):
 Calls prog 418 [ptr p.g,.int .i64 (x:Int),.int .i64 (y:Int),.agg [.int .i64 an,.int .i64 aM].toArray].toArray w
  (aP (λ_:bR=> .tuple #[]) (bB p) (λg=>bB (q6 p (gR p.s.l x y g))) (λg=>g.fk=(List.replicate (la p.cols) (jR an aM),false)) w):=by
 have B:=A.rows
 simp only[bq.abs,bW,cN] at B
 obtain⟨g,b⟩:=q5 (r:=p.s) (j.all _ av) aa;have f:p.s.val= .slice (some ⟨g,0,none⟩) p.s.l.length p.s.c:=by rw[db.val,b]
 have I:p.s.l.length≤p.s.c:=(AO (j.all p.s.au av)).cap
 refine bI func418 ntmps418 j ?_;refine ah ?_;intro J K M;refine aR ?_;refine aj (λC=>?_) (λC=>?_);refine bG [0,1,2,3,4,5,6,7,8,9,10,11,12,13,14,15] 1 [[(16,true,[])]] ?_;refine al ?_;refine aL rfl (λd e=>(fh x y dI rfl rfl (.inl ⟨_,_,rfl,rfl,aa⟩) (.inl ⟨_,_,rfl,rfl,aa⟩) aa aa aG)) ?_;refine aK ?_;refine aL rfl (λd e=>(fh (x+1) (y+1) dI rfl rfl (.inl ⟨_,_,rfl,rfl,aa⟩) (.inl ⟨_,_,rfl,rfl,aa⟩) aa aa aG)) ?_;refine ar ?_;refine Gg (E:=cf) (L:=p.s.l) (src:=(p.s.l.take (y+1)).drop (x+1)) (g:=g) (F:=λ_=>True) f x (y - x) aa dI rfl rfl rfl (λD=>by rw[ag aa,b];simp[Addr.add_lit];rfl) aa nj (λG n=>(AO (r:=p.s) (n.has hD)).cut aa aa) ?_;refine aS ?_;refine bG [0,1,2,3,4,5,6] 2 [[(7,false,[8]),(9,true,[])]] ?_;refine aJ ?_;refine gg rfl zL rfl (λt u=>AJ t p (u.has bF) an aM) (λa v=>?_);refine bY (λ_=>True) (λ_ h=> .inr (h.rem bv.head)) (λ_ h=>aU) ?_;refine aL rfl (λd e=>(bD (q:=y) dI rfl rfl rfl b aa aa aG)) ?_;refine ar ?_;refine xo f (o:=y*2) gL rfl rfl jb (by rw[Addr.add_lit,dG]) rfl (cf.iW a) (by rw[cf.dH];simp only[b0,dn,fz];show y*2+2≤_*2;omega) ?_;refine aS ?_;intro H z;exact aP.bP (i:=a) v rfl (Gh k m ((bA.iY cf a (by simp only[b0,dn,fz];omega)).trans (aX cf.all (Qr aa m))) z ae);refine bG [0,1,2,3,4,5,6,7,8,9,10,11,12,13,14,15] 1 [[(16,true,[])]] ?_;refine aK ?_;refine aL rfl (λd e=>(fh (y+1) (x+1) dI rfl rfl (.inl ⟨_,_,rfl,rfl,aa⟩) (.inl ⟨_,_,rfl,rfl,aa⟩) aa aa aG)) ?_;refine al ?_;refine aL rfl (λd e=>(fh y x dI rfl rfl (.inl ⟨_,_,rfl,rfl,aa⟩) (.inl ⟨_,_,rfl,rfl,aa⟩) aa aa aG)) ?_;refine ar ?_;refine Gg (E:=cf) (L:=p.s.l) (src:=(p.s.l.take x).drop y) (g:=g) (F:=λ_=>True) f (y+1) (x - y) aa dI rfl rfl rfl (λD=>by rw[ag aa,b];simp[Addr.add_lit];rfl) aa nj (λG n=>(AO (r:=p.s) (n.has hD)).cut aa aa) ?_;refine aS ?_;refine bG [0,1,2,3,4,5,6] 2 [[(7,false,[8]),(9,true,[])]] ?_;refine aJ ?_;refine gg rfl zL rfl (λt u=>AJ t p (u.has bF) an aM) (λa v=>?_);refine bY (λ_=>True) (λ_ h=> .inr (h.rem bv.head)) (λ_ h=>aU) ?_;refine aL rfl (λd e=>(bD (q:=y) dI rfl rfl rfl b aa aa aG)) ?_;refine ar ?_;refine xo f (o:=y*2) gL rfl rfl jb (by rw[Addr.add_lit,dG]) rfl (cf.iW a) (by rw[cf.dH];simp only[b0,dn,fz];show y*2+2≤_*2;omega) ?_;refine aS ?_;intro H z;exact aP.bP (i:=a) v rfl (Gh k m ((bA.iY cf a (by simp only[b0,dn,fz];omega)).trans (aX cf.all (Qs aa k))) z ae)
def fI (p:bZ):Int:=p.jA.length
def nw (p:bZ) (a b:Nat) (k v:Int):bZ:={ p with cF:=gR p.cF a b (q4 p.cols k v) }
def sM (p:bZ) (a b:Nat) (k v:Int):bZ:=iC (iC (nw (fC (fC p 1 (fI p+a) 1) 0 (fI p+b) 1) a b k v) a false) (b+1) false
def oJ (p:bZ) (a b:Nat) (k v:Int):bZ:=iC (iC (nw (fC (fC p 1 (fI p+b) 1) 0 (fI p+a) 1) b a k v) (a+1) false) (b+1) false
def nx (p:bZ):bZ:={ p with jA:=oI p.jA p.room (p.cF.headD ([],false)) }
def mD (p:bZ) (a b:Nat) (k v:Int):bZ:=
 if 0<a then sM p a b k v else
 let q:=fC p 0 (fI p+b+1) 1
 let q:=if fI p=p.room then fC (nx q) 2 0 1 else nx q
 iC (nw q 0 b k v) (b+1) false
def sN (p:bZ):bZ:=if p.jA.length=0 then p else iC (fC { p with jA:=[] } 2 0 p.jA.length) 0 false
theorem q7 {p:bq} (h:cV p.r):p.r.n=fI p.abs:=by
 have:=h.n
 simp only[fI,bq.abs,lb];omega
theorem p1 {p:bZ} (h:cZ p) (k a n:Int):cZ (fC p k a n):=⟨h.cols,h.rows,h.wide,h.nv,h.room⟩
theorem mem_modify {α:Type} {f:α→α}: ∀{l:List α} {k:Nat} {x:α},x∈l.modify k f→x∈l∨ ∃y∈l,x=f y
 | [],k,x,h=>by simp at h
 | a::l,0,x,h=>by
  rw[List.modify_zero_cons] at h
  rcases eD.1 h with rfl | h
  exact .inr ⟨a,by simp,rfl⟩;exact .inl (by simp[h])
 | a::l,k+1,x,h=>by
  rw[List.modify_succ_cons] at h
  rcases eD.1 h with rfl | h
  exact .inl av;rcases mem_modify h with h | ⟨y,b,rfl⟩
  exact .inl (by simp[h]);exact .inr ⟨y,by simp[b],rfl⟩
theorem AP {p:bZ} (h:cZ p) (y:Int) (b:Bool):cZ (iC p y b):=by
 unfold iC nt;split
 refine⟨h.cols,by simpa using h.rows,λr a=>?_,h.nv,h.room⟩;rcases mem_modify a with a | ⟨r',c,rfl⟩
 exact h.wide r a;exact h.wide r' c;exact h
theorem Qu {α:Type} {l:List α} {a b:Nat} {r x:α} (h:x∈gR l a b r):x∈l∨x=r:=by
 unfold gR at h
 split at h <;> simp only[cX,eL] at h
 rcases h with ((h | h) | h) | h
 exact .inl (iu h);exact .inl (lC (iu h));exact .inr h;exact .inl (lC h);rcases h with ((h | h) | h) | h
 exact .inl (iu h);exact .inr h;exact .inl (lC (iu h));exact .inl (lC h)
theorem xp {p:bZ} (h:cZ p) {a b:Nat} (e:a<p.cF.length) (f:b<p.cF.length) (k v:Int):cZ (nw p a b k v):=by
 refine⟨h.cols,?_,λr d=>?_,h.nv,h.room⟩;have:=h.rows
 simp only[nw,AN e f];exact this
 rcases Qu d with d | rfl
 exact h.wide r d;have:=h.cols
 refine⟨by simp only[q4,nw,g_];omega,λc g=>?_⟩;rw[mV g];exact bN _
theorem Qv {p:bq} (d:cZ p.abs) {a b:Nat} {g:bR} {k v:Int} (c:g.fk=(List.replicate (la p.cols) (jR k v),false)): (q6 p (gR p.s.l a b g)).abs=nw p.abs a b k v:=by
 have e:la p.cols=p.cols.toNat:=by
  have:=d.cols
  simp only[bq.abs] at this
  unfold la;omega
 rw[e] at c
 simp only[bq.abs,q6,nw,bW,Qp,c,q4]
structure Qw (g:Nat) (q:bZ) (i:bq):Prop where
 g:i.g=g
 r:cV i.r
 abs:i.abs=q
theorem AQ (w:World) (p:bq) (b:bb w (bB p)) (c:cV p.r) (a:cZ p.abs) (x y:Nat) (d:x<p.s.l.length) (f:y<p.s.l.length) (an aM:Int):
 Calls prog 418 [ptr p.g,.int .i64 (x:Int),.int .i64 (y:Int),.agg [.int .i64 an,.int .i64 aM].toArray].toArray w (hI p (nw p.abs x y an aM) w):=
 (Qt w p b a x y d f an aM).mono (λe w' h=>aP.mono h (λg i=>⟨q6 p (gR p.s.l x y g),⟨rfl,c,Qv a i⟩,rfl,rfl⟩))
theorem Gi (w:World) (p:bq) (D:bb w (bB p)) (j:cV p.r) (k:cZ p.abs) (U:p.be.l.length≤1152921504600) (x y:Nat) (V:x<p.s.l.length) (W:y<p.s.l.length) (an aM:Int):
 Calls prog 389 [ptr p.g,.int .i64 (x:Int),.int .i64 (y:Int),.agg [.int .i64 an,.int .i64 aM].toArray].toArray w (hI p (sM p.abs x y an aM) w):=by
 have E:=k.rows
 have m:=q7 j
 have X:=k.room
 have Y:=j.n
 have Z: (p.abs.jA.length:Int)=p.r.n:=by rw[m];rfl
 simp only[bq.abs,bW,cN] at E
 refine bI func389 ntmps389 D ?_;refine ah ?_;intro Za Zb Zc;refine al ?_;refine ao rfl ou rfl (λb c=>by have a:=oF b p (c.has bF) ((c.has cp: (aT (b9 p.r)).pred b) p.r.an av);exact a) ?_;refine ar ?_;refine aZ (l0:=bB p) ae rfl pC rfl (λb c=>by have a:=pW b p (c.bp ae) j aa 1 (p.r.n+x) 1;exact a) (λd F=>?_);obtain⟨e,t,f⟩:=F;have G:d.r.n=p.r.n:=by rw[q7 t,f,m];rfl
 have Zd:d.be.l.length=p.be.l.length+1:=by have:=aX (λz=>z.f_.length) f;simpa [bq.abs,fC] using this
 refine al ?_;refine ao rfl ou rfl (λb c=>by have a:=oF b d (c.has aQ) ((c.has bF: (aT (b9 d.r)).pred b) d.r.an av);rw[e] at a;exact a) ?_;refine ar ?_;refine aZ (l0:=bB d) ae rfl pC rfl (λb c=>by have a:=pW b d (c.bp ae) t aa 0 (d.r.n+y) 1;rw[e] at a;exact a) (λh H=>?_);obtain⟨i,I,hJ⟩:=H;have Ze:h.s.l.length=p.s.l.length:=by have:=aX (λz=>z.cF.length) (hJ.trans (aX (λz=>fC z 0 _ 1) f));simpa [bq.abs,fC] using this
 have u:cZ h.abs:=by rw[hJ,f];exact p1 (p1 k _ _ _) _ _ _
 refine aK ?_;refine aZ (l0:=bB h) ae rfl zY rfl (λb c=>by have a:=AQ b h (c.bp ae) I u x y aa aa an aM;rw[i.trans e] at a;exact a) (λo J=>?_);obtain⟨c1,K,v⟩:=J;have A:cZ o.abs:=by rw[v];exact xp u (by simp[bq.abs];omega) (by simp[bq.abs];omega) _ _
 refine al ?_;refine aZ (l0:=bB o) ae rfl pG rfl (λb c=>by have a:=pV b o (c.bp ae) K A (x:Int);rw[c1.trans (i.trans e)] at a;exact a) (λq L=>?_);obtain⟨B,M,C⟩:=L;have N:cZ q.abs:=by rw[C];exact AP A _ _
 refine al ?_;refine aZ (l0:=bB q) ae rfl pG rfl (λb c=>by have a:=pV b q (c.bp ae) M N ((y:Int)+1);rw[B.trans (c1.trans (i.trans e))] at a;exact a) (λO P=>?_);refine ar ?_;intro Zf Q;obtain⟨R,S,T⟩:=P;exact aN O ⟨R.trans (B.trans (c1.trans (i.trans e))),S,by rw[T,C,v,hJ,f,G,m];rfl⟩ Q
theorem Qx (w:World) (p:bq) (D:bb w (bB p)) (j:cV p.r) (k:cZ p.abs) (T:p.be.l.length≤1152921504600) (x y:Nat) (U:x<p.s.l.length) (V:y<p.s.l.length) (an aM:Int):
 Calls prog 381 [ptr p.g,.int .i64 (x:Int),.int .i64 (y:Int),.agg [.int .i64 an,.int .i64 aM].toArray].toArray w (hI p (oJ p.abs x y an aM) w):=by
 have E:=k.rows
 have m:=q7 j
 have W:=k.room
 have X:=j.n
 have Y: (p.abs.jA.length:Int)=p.r.n:=by rw[m];rfl
 simp only[bq.abs,bW,cN] at E
 refine bI func381 ntmps381 D ?_;refine ah ?_;intro Z Za Zb;refine al ?_;refine ao rfl ou rfl (λb c=>by have a:=oF b p (c.has bF) ((c.has cp: (aT (b9 p.r)).pred b) p.r.an av);exact a) ?_;refine ar ?_;refine aZ (l0:=bB p) ae rfl pC rfl (λb c=>by have a:=pW b p (c.bp ae) j aa 1 (p.r.n+y) 1;exact a) (λd F=>?_);obtain⟨e,t,f⟩:=F;have G:d.r.n=p.r.n:=by rw[q7 t,f,m];rfl
 have Zc:d.be.l.length=p.be.l.length+1:=by have:=aX (λz=>z.f_.length) f;simpa [bq.abs,fC] using this
 refine al ?_;refine ao rfl ou rfl (λb c=>by have a:=oF b d (c.has aQ) ((c.has bF: (aT (b9 d.r)).pred b) d.r.an av);rw[e] at a;exact a) ?_;refine ar ?_;refine aZ (l0:=bB d) ae rfl pC rfl (λb c=>by have a:=pW b d (c.bp ae) t aa 0 (d.r.n+x) 1;rw[e] at a;exact a) (λh H=>?_);obtain⟨i,I,hJ⟩:=H;have Zd:h.s.l.length=p.s.l.length:=by have:=aX (λz=>z.cF.length) (hJ.trans (aX (λz=>fC z 0 _ 1) f));simpa [bq.abs,fC] using this
 have u:cZ h.abs:=by rw[hJ,f];exact p1 (p1 k _ _ _) _ _ _
 refine aK ?_;refine aZ (l0:=bB h) ae rfl zY rfl (λb c=>by have a:=AQ b h (c.bp ae) I u y x aa aa an aM;rw[i.trans e] at a;exact a) (λo J=>?_);obtain⟨c1,K,v⟩:=J;have A:cZ o.abs:=by rw[v];exact xp u (by simp[bq.abs];omega) (by simp[bq.abs];omega) _ _
 refine aC ?_;refine aZ (l0:=bB o) ae rfl pG rfl (λb c=>by have a:=pV b o (c.bp ae) K A ((x:Int)+1);rw[c1.trans (i.trans e)] at a;exact a) (λq L=>?_);obtain⟨B,M,C⟩:=L;have N:cZ q.abs:=by rw[C];exact AP A _ _
 refine al ?_;refine aZ (l0:=bB q) ae rfl pG rfl (λb c=>by have a:=pV b q (c.bp ae) M N ((y:Int)+1);rw[B.trans (c1.trans (i.trans e))] at a;exact a) (λi32 O=>?_);refine ar ?_;intro Ze P;obtain⟨Q,R,S⟩:=O;exact aN i32 ⟨Q.trans (B.trans (c1.trans (i.trans e))),R,by rw[S,C,v,hJ,f,G,m];rfl⟩ P
end Go.Proofs.YtkeokgcdnfjaaaaGreatDoor.Mq
