/- part 33 of the proof -/
import Derived.Test.YtoghoobfpcadbaaGreatDoorQ32
namespace Go.Proofs.YtoghoobfpcadbaaGreatDoor.Mq
open Go Go.RowKit Go.Proofs
section
def gH (e:TypeId) (sz:Nat) (A:Option Addr) (m c:Nat) (xs:List Value):Chunk where
 cm:=(Value.slice A m c).ownBlock.toList
 pred w:=xs.length=m*sz∧((A=none∧m=0∧c=0)∨ ∃g o am,A=some ⟨g,o,none⟩∧w.heap[g]? = some (.cells am e (0,0))∧m≤c∧c≤maxLen∧am.size=o+c*sz∧(am.toList.drop o).take (m*sz)=xs)
 low w h k a:=by
  rcases h.2 with ⟨rfl,_⟩ | ⟨g,o,am,rfl,b,_⟩
  simp[Value.ownBlock] at a
  simp[Value.ownBlock] at a;subst a;exact (lE.1 b).1
 loc w w' h ai:=by
  refine⟨ai.1,?_⟩
  rcases ai.2 with d | ⟨g,o,am,rfl,b,rest⟩
  exact .inl d
  exact .inr ⟨g,o,am,rfl,by rw[h g (by simp[Value.ownBlock])];exact b,rest⟩
theorem V6 (e sz:Nat) (w:World): (gH e sz none 0 0 []).pred w:=⟨by simp,.inl ⟨rfl,rfl,rfl⟩⟩
theorem V7 (e sz:Nat) (A:Option Addr) (m c:Nat) (xs:List Value): (gH e sz A m c xs).cm.Nodup:=by
 show (Value.slice A m c).ownBlock.toList.Nodup
 cases (Value.slice A m c).ownBlock <;> simp
theorem V8 {e:Nat} {α:Type} {E:bx α} {A:Option Addr} {m c:Nat} {l:List α} {w:World} (h: (gH e E.sz A m c (E.all l)).pred w) (r:l.length=m) {b2:Addr} (d:A=some b2) {k:Nat} {a:α} (i:l[k]? = some a):
 ∀j u,(E.enc a)[j]? = some u→w.cell? ((b2.add (k*E.sz)).add j)=some u:=by
 intro j u n;rcases h.2 with ⟨f,_⟩ | ⟨g,o,am,f,p,s,t,v,q⟩
 rw[f] at d;cases d
 rw[f] at d;cases d
 have b:=E.lM i n
 rw[←q,iB] at b
 split at b
 rw[mu] at b
 rw[Addr.add_lit,Addr.add_lit,cell_of_row w g _ am e (0,0) p,Nat.add_assoc];simpa using b
 cases b
theorem yJ {e sz:Nat} {A:Option Addr} {m c:Nat} {xs:List Value} {w:World} (h: (gH e sz A m c xs).pred w):m≤c∧c≤maxLen∧(0<m→ ∃g o,A=some ⟨g,o,none⟩):=by
 rcases h.2 with ⟨a,i,b⟩ | ⟨g,o,am,a,j,d,f,_⟩
 exact⟨aa,by rw[b];exact bP _,λh=>by omega⟩;exact⟨d,f,λ_=>⟨g,o,a⟩⟩
theorem V9 {e sz:Nat} {A:Option Addr} {m c:Nat} {xs:List Value} {w:World} (l:1≤m) (h: (gH e sz A m c xs).pred w): (gH e sz (A.map (·.add (1*sz))) (m - 1) (c - 1) (xs.drop sz)).pred w:=by
 obtain⟨m,rfl⟩ : ∃k,m=k+1:=⟨m - 1,aa⟩;obtain⟨a,d⟩:=h;rw[oj] at a
 refine⟨by rw[fK,a,ul,ul],?_⟩;rcases d with ⟨_,b,_⟩ | ⟨g,o,am,b,f,n,p,i,j⟩
 omega
 obtain⟨c,rfl⟩ : ∃k,c=k+1:=⟨c - 1,aa⟩;rw[oj] at i
 refine .inr ⟨g,o+sz,am,by rw[b];simp[Addr.add_lit],f,aa,aa,by rw[ul];omega,?_⟩;rw[←j,ul,oj,List.drop_take,mr,ul]
theorem Jt (e sz:Nat) (A:Option Addr) (m c b c' k:Nat) (xs dh:List Value): (gH e sz (A.map (·.add k)) m c xs).cm=(gH e sz A b c' dh).cm:=by
 show (Value.slice (A.map (·.add k)) m c).ownBlock.toList=(Value.slice A b c').ownBlock.toList
 cases A with
 | none=>rfl
 | some a=>simp[Value.ownBlock,block_add]
section
variable {b:World} {S:List Nat} {cs cs':List Chunk} {w:World} {c c':Chunk}
theorem af.conv (h:af b S cs w) (a:bn cs c c' cs') (d:c'.cm=c.cm) (ai:c.pred w→c'.pred w):af b S cs' w:=by
 refine h.ic a (Ext.refl _ _) (ai (h.has a.has)) (λk e=> .inl (d▸e)) ?_;rw[d];obtain⟨l1,hh,rfl,_⟩:=a.split;have:=h.nodup
 rw[iG,fi,fS,fS] at this
 exact this.2.1.1
theorem V_ {α:Type} {l:List α} {k:Nat} {c:α} (a:l[k]? = some c):List.Perm l (c::l.eraseIdx k):=by
 have b:=(cY.1 a).1
 have d:=(cY.1 a).2
 conv=>lhs;rw[←i7 k l]
 rw[lG b,d,List.eraseIdx_eq_take_drop_succ];exact oh
theorem Wa {α:Type} {l:List α} {k:Nat} (c:α) (a:k<l.length):List.Perm (c::l.eraseIdx k) (l.set k c):=by
 rw[qG,ay a,List.eraseIdx_eq_take_drop_succ];exact List.perm_middle.symm
theorem af.pick {l:List Chunk} {k:Nat} (h:af b S (aU l::cs) w) (a:l[k]? = some c):af b S (c::aU (l.eraseIdx k)::cs) w:=by
 have d:af b S (c::(l.eraseIdx k++cs)) w:=h.lb.perm ((V_ a).append_right cs)
 have e:af b S (l.eraseIdx k++c::cs) w:=d.perm List.perm_middle.symm
 exact (e.close' (l:=l.eraseIdx k)).perm (List.Perm.swap _ _ _)
theorem af.Ju {l:List Chunk} {k:Nat} (h:af b S (c::aU (l.eraseIdx k)::cs) w) (a:k<l.length):af b S (aU (l.set k c)::cs) w:=by
 have d:af b S (aU (l.eraseIdx k)::c::cs) w:=h.perm (List.Perm.swap _ _ _)
 have e:af b S (l.eraseIdx k++c::cs) w:=d.lb
 have ai:List.Perm (l.eraseIdx k++c::cs) (l.set k c++cs):=List.perm_middle.trans ((Wa c a).append_right cs)
 exact (e.perm ai).close'
theorem af.Jv {A:Option Addr} {m c1:Nat} {e sz:Nat} {xs:List Value} (h:af b S cs w) (a:Has cs (gH e sz A m c1 xs)):m≤c1∧c1≤maxLen∧(0<m→ ∃g o,A=some ⟨g,o,none⟩):=yJ (h.has a)
end
section
variable {P:Program} {n:Nat} {ops:Array Oper} {Q:cq} {rest:List Oper} {l:Fr} {d:Nat} {ty:TypeId} {pos:String} {a6:Array Edge}
variable {b:World} {S:List Nat} {cs cs':List Chunk}
theorem CC {c c':Chunk} (a:bn cs c c' cs') (d:c'.cm=c.cm) (ai: ∀w,c.pred w→c'.pred w) (h:az P n ops Q rest l (af b S cs')):az P n ops Q rest l (af b S cs):=
 hg h (Sub.refl _) (λw e=>e.conv a d (ai w))
theorem CD {a:Code} {L:List Chunk} {c:Chunk} {k:Nat} (d:bv cs (aU L) cs') (e:L[k]? = some c) (h:de P n a Q l (af b S (c::aU (L.eraseIdx k)::cs'))):de P n a Q l (af b S cs):=
 cL h (Sub.refl _) (λ_ f=>(f.perm d.perm).pick e)
theorem vP {L:List Chunk} {c:Chunk} {k:Nat} (a:bv cs (aU L) cs') (d:L[k]? = some c) (h:az P n ops Q rest l (af b S (c::aU (L.eraseIdx k)::cs'))):az P n ops Q rest l (af b S cs):=
 hg h (Sub.refl _) (λ_ e=>(e.perm a.perm).pick d)
theorem Wb {A:Option Addr} {m c e sz:Nat} {xs:List Value} (d:Has cs (gH e sz A m c xs)) (h:m≤c∧c≤maxLen∧(0<m→ ∃g o,A=some ⟨g,o,none⟩)→az P n ops Q rest l (af b S cs)):az P n ops Q rest l (af b S cs):=λw a=>h (a.Jv d) w a
theorem yK {a:Code} {A:Option Addr} {m c e sz:Nat} {xs:List Value} (f:Has cs (gH e sz A m c xs)) (h:m≤c∧c≤maxLen∧(0<m→ ∃g o,A=some ⟨g,o,none⟩)→de P n a Q l (af b S cs)):de P n a Q l (af b S cs):=λw d=>h (d.Jv f) w d
theorem Wc {w:World} {t ty e sz E:Nat} {z:List Value} (f:c6 P t e sz E z) {A:Option Addr} {m c:Nat} {xs:List Value} (h: (gH e sz A m c xs).pred w) {a:Addr} {c1:Nat} {news:List Value} (b:news.length=sz)
 (s: ∀j u,news[j]? = some u→w.cell? (a.add j)=some u) (O:aH news) (F:m+1≤maxLen) (G: (m+1)*E≤140737488355328):
 ∃p c' w',(Builtin.append_ #[t,t] ty #[.slice A m c,.slice (some a) 1 c1]).run P w= .ok (.slice p (m+1) c') w'∧(gH e sz p (m+1) c' (xs++news)).pred w'∧w.grownBy w' (Value.slice A m c).ownBlock∧
  ((Value.slice p (m+1) c').ownBlock=(Value.slice A m c).ownBlock∨(Value.slice p (m+1) c').ownBlock=some w.heap.size):=by
 obtain⟨i,fj,x,H,Q,R,S⟩:=f.inf;subst R;have T:fj.cells.size=i.size:=by rw[←lF,Q,f.len]
 have q: (xs++news).length=(m+1)*i.size:=by rw[b8,h.1,b,oj]
 have U: ((m+1 :Nat):Int)≤9223372036854775807:=by simp only[maxLen] at F;omega
 have I: ∀d,d<m+1→(gH e i.size (some ⟨w.heap.size,0,none⟩) (m+1) (grownCap w (m+1) d e) (xs++news)).pred (w.drew.alloc (.cells (xs.toArray++news.toArray++Builtin.zeroCells fj.cells (grownCap w (m+1) d e - (m+1))) e)):=by
  intro d Ze;have V:=grownCap_ge w (m+1) d e
  have y:=grownCap_le_maxLen w (m+1) d e F
  refine⟨q,.inr ⟨w.heap.size,0,_,rfl,heap_alloc_new w.drew _,V,y,?_,?_⟩⟩;simp only[Array.size_append,List.size_toArray,size_zeroCells,T,h.1,b,dA];rw[←oj,←i8];congr 1
  omega
  simp only[Array.toList_append,fh,pq];rw[←fh,←q];exact List.take_left
 have J: ∀(o:Obj) (row:Option Nat),w.grownBy (w.drew.alloc o) row:=λo row=>⟨rfl,rfl,rfl,by simp,λk B _=>heap_alloc_old w.drew o B⟩
 rcases h.2 with ⟨rfl,rfl,rfl⟩ | ⟨g,o,am,rfl,K,Zf,y,r,L⟩
 have W:xs=[]:=iZ (by simpa using h.1)
 subst W;have C:=Go.run_append_nil (P:=P) (w:=w) t ty e i fj f.e_ x H a 1 c1 news (by rw[b,Nat.one_mul]) s aa aa (by rw[dA] at G;omega)
 have M:=I 0 aa
 simp only[iA,dA] at M
 exact⟨_,_,_,C,M,J _ _,.inr rfl⟩;by_cases D:m+1≤c
 have X: (m+1)*i.size≤c*i.size:=kZ _ D
 rw[oj] at X
 have Y:=run_firstCells_some (P:=P) (w:=w) i.size 1 a 1 c1 news (by rw[b,Nat.one_mul]) s
 have Z:w.heap[g]? = some (.cells am.toList.toArray e (0,0)):=by simpa using K
 obtain⟨w',Za,N,l⟩:=zb (P:=P) news am.toList w (o+m*i.size) 0 Z (by rw[b,lF,r];omega) O;rw[Nat.add_zero] at N
 have Zb: (o+m*i.size)+news.length≤am.toList.length:=by rw[b,lF,r];omega
 refine⟨some ⟨g,o,none⟩,c,w',?_,⟨q,.inr ⟨g,o,_,rfl,N,D,y,?_,?_⟩⟩,?_,.inl rfl⟩;simp[Builtin.append_,run_underlying f.e_,sizeOf,typeInfo,x,Builtin.lenOf,D,Y,Addr.add_lit,Za]
 rw[List.size_toArray,wu,lF,r];show ((cZ am.toList (o+m*i.size) news).drop o).take ((m+1)*i.size)=xs++news
 rw[hl _ Zb,fh,List.drop_append_of_le_length (by rw[dv,lF,r];omega),List.drop_take,show o+m*i.size - o=m*i.size by omega,L,←fh,←q];exact List.take_left;exact⟨l.os,l.tape,l.output,l.size,λk B Zc=>l.block k B (by simpa [Value.ownBlock] using Zc)⟩;have Zd: ∀j v,xs[j]? = some v→w.cell? ((⟨g,o,none⟩ :Addr).add j)=some v:=by
  intro j v n;rw[Addr.add_lit,cell_of_row w g _ am e (0,0) K];rw[←L,iB] at n
  split at n
  rw[mu] at n;simpa using n
  cases n
 have C:=run_append_grow (P:=P) (w:=w) t ty e i fj f.e_ x H ⟨g,o,none⟩ m c xs h.1 Zd a 1 c1 news (by rw[b,Nat.one_mul]) s aa U (growslice_fits aa (by rw[S];exact G))
 exact⟨_,_,_,C,I c aa,J _ _,.inr rfl⟩
theorem Wd {x y:Operand} {t e sz p:Nat} {z:List Value} {A:Option Addr} {m c:Nat} {xs:List Value} {i c1:Nat} {vs:List Value} {te:TypeId} {cs':Option Addr→Nat→List Chunk} (s:c6 P t e sz p z) (ak:Nat.blt d n=true)
 (v:ba l x=some (.slice A m c)) (B:ba l y=some (.slice (some ⟨i,0,none⟩) 1 c1)) (C:Has cs (aE i vs te)) (D:vs.length=sz) (E:aH vs) (F:m+1≤maxLen) (G: (m+1)*p≤140737488355328)
 (q: ∀f c',bn cs (gH e sz A m c xs) (gH e sz f (m+1) c' (xs++vs)) (cs' f c'))
 (h: ∀f c',az P n ops Q rest ((d,.slice f (m+1) c')::l) (af b S (cs' f c'))):
 az P n ops Q (⟨some d,.call ⟨.builtin .append,#[x,y],#[t,t]⟩,ty,pos,a6,none⟩::rest) l (af b S cs):=by
 refine hD ak λM w r o=>?_
 obtain⟨f,c',w',H,I,J,K⟩:=Wc (P:=P) (ty:=ty) s (o.has (q A c).has) (a:=⟨i,0,none⟩) (c1:=c1) D (λj u L=>by
  rw[Addr.add_lit];exact o.ep C (by simpa using L)) E F G
 refine⟨_,w',?_,(h f c').at (o.ic (q f c') (Ext.uo J) I ?_ (V7 _ _ _ _ _ _))⟩;simp[execOp,resolve,invoke,builtin,r x _ v,r y _ B,H]
 intro k g;replace g: (Value.slice f (m+1) c').ownBlock=some k:=i_.1 g
 rcases K with h | h
 exact .inl (i_.2 (h▸g));rw[h] at g;cases g;exact .inr (ch _)
theorem Jw {H:World→Prop} {x:Operand} {hi:Option Operand} {t e len sz:Nat} {g o:Nat} (m:Nat) (b:P.underlying t=some (.array len e)) (c: ∀w,(Go.sizeOf e).run P w= .ok sz w) (ak:Nat.blt d n=true) (f:ba l x=some (.pointer (some ⟨g,o,none⟩)))
 (j: (∃q u,hi=some q∧ba l q=some (.int .i64 u)∧u=(m:Int))∨hi=none∧m=len) (k:m≤len)
 (h:az P n ops Q rest ((d,.slice (some ⟨g,o,none⟩) m len)::l) H):az P n ops Q (⟨some d,.slice t x none hi none,ty,pos,a6,none⟩::rest) l H:=by
 refine df _ ak (λr w a=>?_) h;have i: (⟨g,o,none⟩ :Addr).add 0=⟨g,o,none⟩:=by rw[Addr.add_lit];rfl
 rcases j with ⟨q,u,rfl,p,rfl⟩ | ⟨rfl,rfl⟩
 simp[execOp,a x _ f,a q _ p,Instr.sliceAt,run_underlying b,Instr.sureAddr,Instr.sliceBounds,Instr.sliceBound,asIntOf,c,k,i]
 simp[execOp,a x _ f,Instr.sliceAt,run_underlying b,Instr.sureAddr,Instr.sliceBounds,c,i]
theorem Jx {α:Type} {E:bx α} {x y:Operand} {t e L:Nat} {z:List Value} {g o m c:Nat} {xs:List Value} {te:TypeId} {A:Option Addr} {k c':Nat} {src:List α} {F:Nat→Prop} {cs':List Chunk} (r:Nat) (M:r=min k m) (f:c6 P t e E.sz L z) (ak:Nat.blt d n=true)
 (N:ba l x=some (.slice (some ⟨g,o,none⟩) m c)) (O:ba l y=some (.slice A k c')) (a:bn cs (aE g xs te) (aE g (cZ xs o (E.all (src.take r))) te) cs')
 (R: ∀w,af b S cs w→Rd E w F A k c' src) (Zg:o+m*E.sz≤xs.length)
 (h:az P n ops Q rest ((d,.int .i64 (r:Int))::l) (af b S cs')):
 az P n ops Q (⟨some d,.call ⟨.builtin .copy,#[x,y],#[t,t]⟩,ty,pos,a6,none⟩::rest) l (af b S cs):=by
 obtain⟨i,fj,T,Zh,Zi,U,Zj⟩:=f.inf;refine hD ak λZk w B C=>?_
 have q:=R w C
 have V:r≤k:=by omega
 have Zl:r*E.sz≤m*E.sz:=kZ _ aa
 have s: (E.all (src.take r)).length=r*E.sz:=by rw[E.dE,dv,q.len,iE V]
 obtain⟨w',W,X⟩:=C.store (P:=P) (o:=o) (vs:=E.all (src.take r)) (by rw[s];omega) (E.wv _) a;have Y:Nat.min k m=r:=M.symm
 have Z: (Builtin.firstCells E.sz r (.slice A k c')).run P w= .ok (E.all (src.take r)).toArray w:=by
  rcases gM r with D | D
  subst D;cases A <;> simp[Builtin.firstCells,bx.all,loadCells,loadCellsFrom]
  obtain⟨b2,rfl,_,Za⟩:=q.cells aa;have:=run_loadCellsFrom (P:=P) (w:=w) (p:=b2) (E.all (src.take r)) 0 #[] (λj u a=>by
   have Zb:j<r*E.sz:=by
    have:=(cY.1 a).1
    rwa [s] at this
   have G:0<E.sz:=f.pos
   have Zc:j/E.sz<r:=(Nat.div_lt_iff_lt_mul G).2 Zb
   have Zd:=iF j G
   have Ze:=Nat.div_add_mod j E.sz
   have Zf:j/E.sz<src.length:=by rw[q.len];omega
   obtain⟨a0,H⟩ : ∃a0,src[j/E.sz]? = some a0:=⟨src[j/E.sz],bG Zf⟩;obtain⟨I,J⟩ : ∃I,(E.enc a0)[j%E.sz]? = some I:=⟨(E.enc a0)[j%E.sz]'(by rw[E.len];exact Zd),bG _⟩;have v:=E.lM (l:=src.take r) (by rw[iB,ay Zc];exact H) J
   have K:j/E.sz*E.sz+j%E.sz=j:=by rw[qI];exact Ze
   rw[K,a] at v
   simp only[dI] at v
   subst v;have:=Za _ _ _ _ H J
   rw[add_add,K] at this
   rw[dA];exact this)
  rw[s] at this
  simpa [Builtin.firstCells,loadCells] using this
 refine⟨.int .i64 (r:Int),w',?_,h.at X⟩;simp[execOp,resolve,invoke,builtin,B x _ N,B y _ O,Builtin.copy_,run_underlying f.e_,Builtin.lenOf,run_sizeOf T,U,Y,Z,goInt,W]
end
end
end Go.Proofs.YtoghoobfpcadbaaGreatDoor.Mq
namespace Go.Proofs.YtoghoobfpcadbaaGreatDoor.Mq
open Go Go.RowKit Go.Proofs Tryz
theorem vQ (A:Option Addr) (c:Nat): (if c=0 then A else A.map (λx=>x.add (0*2)))=A:=by
 split
 rfl
 cases A with
 | none=>rfl
 | some a=>simp[Addr.add]
theorem bx.CE {α:Type} (E:bx α) (l:List α) (j:Nat):E.all (l.take j)=(E.all l).take (j*E.sz):=by
 conv=>rhs;rw[←i7 j l,E.all_append]
 by_cases h:j≤l.length
 rw[r0 (by rw[E.dE,dv,iE h])];rw[ez (l:=l) aa,n9 aa];show _=(E.all l++[]).take _
 rw[fR,ez (by rw[E.dE];exact kZ _ aa)]
theorem We {w:World} {A:Option Addr} {c j:Nat} {L:List bh} (a:j≤L.length) (h: (Mq.au 51 bW A c L).pred w): (Mq.au 51 bW A c (L.take j)).pred w:=by
 have b:=CB (e:=51) (sz:=bW.sz) a h
 rw[←bx.CE] at b
 show w.ownsRow 0 _ _ (.slice A (L.take j).length c) (L.take j).length _
 rw[dv,iE a];exact b
theorem Wg (w:World) (s:g_) (N:a8 w (e8 s)) (B:qq s) (x:ec):Calls prog 66 [ptr s.g,rC x].toArray w (CA s (.tuple #[]) w):=by
 have o:=B.len
 have r:=B.most
 obtain⟨g,⟨A,c,l⟩,most⟩:=s;dsimp only at o r
 refine bC func66 ntmps66 N ?_;refine ah ?_;intro H Zg Zh;refine bp ?_;refine ao rfl wO rfl (λn C=>yI n x) ?_;refine ax ?_;refine b6 rfl (λO=>?_) (λO=>?_);refine ah ?_;intro P D;exact aN ⟨g,⟨A,c,l⟩,most⟩ ⟨rfl,rfl,B⟩ D;refine aL ?_;refine ft 0 0 ds rfl rfl (.inr ⟨rfl,rfl⟩) (.inl ⟨_,_,rfl,rfl,rfl⟩) aa aa ?_;rw[vQ];refine cI ?_;refine b1 (ι:=Nat × Nat × List bh) (λt=>[(0,ptr g),(3,ptr H),(4,.slice A t.2.1 c),(22,.slice A l.length c),(23,.int .i64 (l.length:Int)),(24,.int .i64 (t.1 :Int))]) (λt=>af w (aA (e8 ⟨g,⟨A,c,l⟩,most⟩)) [aE H x.enc 167,aE g [.slice A l.length c,.int .i64 most] 153,own 51 bW.sz (.slice A l.length c) l.length (bW.all t.2.2)]) (λt=>t.1≤l.length∧t.2.1≤t.1∧t.2.2.length=l.length) (λt=>l.length - t.1) ?_ ?_;exact λw' Q=>⟨(0,0,l),⟨bP _,ch _,rfl⟩,(gC rfl rfl rfl rfl rfl rfl),Q⟩
 rintro⟨i,j,L⟩ ⟨hi,R,p⟩;dsimp only at hi R p ⊢
 obtain⟨W,I⟩ : ∃W,W=aA (e8 ⟨g,⟨A,c,l⟩,most⟩):=⟨_,rfl⟩;unfold CA;have S: ∀(v:Value) (y:g_) (w':World),vO ⟨g,⟨A,c,l⟩,most⟩ y→af w W (e8 y) w'→aO (λ_:g_=>v) (e8 ⟨g,⟨A,c,l⟩,most⟩) e8 (vO ⟨g,⟨A,c,l⟩,most⟩) w (.returned v) w':=λv y w' o r=>aO.bQ y o rfl (I▸r)
 rw[←I];refine al ?_;refine aj (λT=>?_) (λT=>?_);obtain⟨⟨b,d⟩,U⟩ : ∃v,L[i]? = some v:=⟨L[i]'aa,bG _⟩;refine hE (e:=51) (sz:=2) (v:= .slice A l.length c) cu (λZi Zj J Zk _ _ V=>?_);obtain⟨z,X⟩:=V aa;have f:A=some ⟨z,0,none⟩:=by injection J with K Y Z;exact K.trans X
 have M:l.length≤c:=by injection J with K Y Z;omega
 refine al ?_;refine bw (q:=i) ds rfl rfl rfl f rfl aa ?_;refine cy (vs:=bh.enc ⟨b,d⟩) dN rfl rfl rfl (λZa o k u Zb=>(show af _ _ [_,_,own 51 bW.sz (.slice (some ⟨z,0,none⟩) l.length c) l.length (bW.all L)] Za from f▸o).k4 (E:=bW) (Has.tail (Has.tail Has.head)) U k u Zb) ?_;refine ar ?_;intro Zl Zm Zn;refine aR ?_;refine aX 31 rfl (λF=>?_) (λF=>?_);have Zc:=a1 F
 refine ax ?_;refine ao rfl zK rfl (λn C=>Cw n ⟨b,d⟩ x) ?_;refine ah ?_;refine aj (λaK=>?_) (λaK=>?_);simp only[b3] at aK
 refine aL ?_;exact bg (i+1,j,L) ⟨aa,by dsimp only;omega,p⟩ bm bR (λ_ h=>h.aw ae);simp only[b3] at aK
 refine al ?_;refine ao rfl zJ rfl (λn C=>Cx n ⟨b,d⟩ x) ?_;refine ar ?_;intro G Zd Ze;refine Js (E:=bW) (te:=51) (g:=z) (j:=j) (m:=l.length) (a:=lz ⟨b,d⟩ x) (xs:=bW.all L) ds rfl (by rw[←f];rfl) rfl aQ aa M (by rw[←f];exact jf) ?_;rw[←f];refine aL ?_
 (have _:=G;refine bg (i+1,j+1,L.set j (lz ⟨b,d⟩ x)) ⟨aa,by dsimp only;omega,by simpa using p⟩ bm (gC rfl rfl rfl rfl rfl rfl) (λ_ h=>?_);rw[show 2=bW.sz from rfl,bx.hl bW (lz ⟨b,d⟩ x) (show j<L.length by omega)] at h;exact h.aw ae)
 have Zc:=bc F
 refine bI ?_;refine ao rfl zJ rfl (λn C=>Cx n ⟨b,d⟩ x) ?_;refine ar ?_;intro G Zd Ze;refine Js (E:=bW) (te:=51) (g:=z) (j:=j) (m:=l.length) (a:=lz ⟨b,d⟩ x) (xs:=bW.all L) ds rfl (by rw[←f];rfl) rfl aQ aa M (by rw[←f];exact jf) ?_;rw[←f];refine aL ?_
 (have _:=G;refine bg (i+1,j+1,L.set j (lz ⟨b,d⟩ x)) ⟨aa,by dsimp only;omega,by simpa using p⟩ bm (gC rfl rfl rfl rfl rfl rfl) (λ_ h=>?_);rw[show 2=bW.sz from rfl,bx.hl bW (lz ⟨b,d⟩ x) (show j<L.length by omega)] at h;exact h.aw ae)
 refine bI ?_;intro P D;refine S _ ⟨g,⟨A,c,L.take j⟩,most⟩ _ ⟨rfl,rfl,by show (((L.take j).length:Nat):Int)≤most;rw[dv];omega,r⟩ ?_;have Zf: (L.take j).length=j:=by rw[dv];omega
 simp only[e8,g_.an,Cy,dl.val,dl.au,Zf];exact (D.conv (c:=own 51 bW.sz (.slice A l.length c) l.length (bW.all L)) (c':=Mq.au 51 bW A c (L.take j)) ld (by cases A <;> rfl) (λh=>We aa (by show World.ownsRow _ 0 _ _ (.slice A L.length c) L.length _;rw[p];exact h))).aw ae
end Go.Proofs.YtoghoobfpcadbaaGreatDoor.Mq
namespace Go.Proofs.YtoghoobfpcadbaaGreatDoor.Mq
open Go Go.RowKit Go.Proofs
abbrev em (p:bh):Prop:=(0≤p.row∧p.row≤4398046511104)∧0≤p.dp∧p.dp≤4398046511104
theorem Wh {p:bh} (h:em p) (s:ec):em (lz p s):=by
 unfold lz;have d:d9 s→0≤h_ s∧h_ s≤1099511627776:=λh=>by unfold h_;split <;> simp only[d9,dR] at h <;> omega
 split
 exact h;rename_i a;have b:dk p∧d9 s∧h_ s≤p.row:=⟨Classical.byContradiction λc=>a (.inl c),Classical.byContradiction λc=>a (.inr (.inl c)),aa⟩
 have e:=d b.2.1
 simp only[dk,d9,dR] at b
 split
 exact⟨by dsimp only;omega,by dsimp only;omega⟩;split
 exact⟨by dsimp only;omega,by dsimp only;omega⟩;exact⟨by dsimp only;omega,by dsimp only;omega⟩
structure dr where
 code:Int
 has:Bool
 cut:Bool
 dir:List UInt8
 line:List UInt8
 id:Int
 pl:List bh
structure du where
 blocks:List dr
 most:Int
 ids:Int
 dir:List UInt8
structure kh where
 kind:Int
 code:Int
 has:Bool
 text:List UInt8
def gI (e:dr):bh:=e.pl.getLastD ⟨0,0⟩
def gJ (e:dr) (n:Nat) (at_:bh):dr:={ e with pl:=e.pl++List.replicate (n - e.pl.length) at_ }
def fP (s:du) (n:Nat) (at_:bh):du:=
 let b:=s.blocks++[⟨0,false,false,s.dir,[],s.ids+1,List.replicate n at_⟩]
 { s with ids:=s.ids+1,blocks:=if s.most<b.length then b.tail else b }
def setLast (l:List dr) (f:dr→dr):List dr:=match l.getLast? with
 | some e=>l.dropLast++[f e]
 | none=>l
def pi (s:du) (a b:Nat):Bool:=match s.blocks.getLast? with
 | some e=>decide (a≤e.pl.length) && decide (e.pl.length≤b)
 | none=>false
def gr (s:du) (f:dr→dr):du:={ s with blocks:=setLast s.blocks f }
def lA (s:du) (a:bh):bh:=match s.blocks.getLast? with
 | some e=>hz a (gI e)
 | none=>a
def fI (s:du) (x:kh) (a:bh):du:=
 if ¬dk a then s else
 if x.kind=1 then fP s 1 (lA s a) else
 if x.kind=2 then (if pi s 1 1=true then gr s (λe=>gJ e 2 (lA s a)) else fP s 2 (lA s a)) else
 if x.kind=3 then (if pi s 1 2=true then gr s (λe=>gJ e 3 (lA s a)) else fP s 3 (lA s a)) else
 if x.kind=4 then (if pi s 1 3=true then gr s (λe=>{ gJ e 4 (lA s a) with code:=x.code,has:=x.has }) else s) else
 if x.kind=5 then (if pi s 1 3=true then gr s (λe=>{ e with line:=x.text }) else s) else
 if x.kind=6 then (if pi s 1 2=true then gr { s with dir:=x.text } (λe=>{ e with dir:=x.text }) else { s with dir:=x.text }) else s
def kS (e:dr):bh:=e.pl.headD ⟨0,0⟩
def ha (x:ec):List dr→List dr
 | a::b::l=>if qo (kS a) x=true∧hO ⟨x.n,0⟩ (kS b)=false then ha x (b::l) else a::b::l
 | l=>l
def qr (x:ec) (e:dr):dr:={ e with cut:=e.cut || qo (kS e) x }
def rD (x:ec) (e:dr):dr:={ e with pl:=e.pl.map (λp=>lz p x) }
def mX (s:du) (x:ec):du:=
 if ¬d9 x then s else
 { s with blocks:=(if x.kind=2 then (ha x s.blocks).map (qr x) else s.blocks).map (rD x) }
def eI (s:du):Int:=match s.blocks.getLast? with
 | some e=>e.id
 | none=>0
def vR (l:List dr):List bh:=l.flatMap (·.pl)
structure eV where
 id:Int
 phase:Int
 start:bh
 input:bh
 output:bh
 done:bh
 stop:bh
 code:Int
 has:Bool
 cut:Bool
 dir:List UInt8
 line:List UInt8
def kT (e:dr) (stop:bh):eV:=⟨e.id,e.pl.length,e.pl.getD 0 stop,e.pl.getD 1 stop,e.pl.getD 2 stop,e.pl.getD 3 stop,stop,e.code,e.has,e.cut,e.dir,e.line⟩
def gp (p:bh):eV:=⟨0,0,⟨0,0⟩,p,p,p,p,0,false,false,[],[]⟩
def iw (a:bh):List dr→List eV
 | []=>[]
 | [e]=>[kT e a]
 | e::f::l=>kT e (kS f)::iw a (f::l)
def ki (s:du) (a:bh):List eV:=match s.blocks with
 | []=>[gp a]
 | e::l=>gp (kS e)::iw (hz a (gI ((e::l).getLastD e))) (e::l)
def kj (s:du) (id:Int) (a:bh):Option eV:=(ki s a).find? (λb=>decide (b.id=id))
structure iV (e:dr) (ids:Int):Prop where
 pl:1≤e.pl.length∧e.pl.length≤4
 pos: ∀p∈e.pl,em p
 id:1≤e.id∧e.id≤ids
 mj:e.dir.length≤256∧e.line.length≤256
structure hA (s:du) (N:Int):Prop where
 most:1≤s.most∧s.most≤10000
 len: (s.blocks.length:Int)≤s.most
 ids:0≤s.ids∧s.ids≤N
 e9: ∀e∈s.blocks,iV e s.ids
 qs:s.blocks.Pairwise (λa b=>a.id<b.id)
 dir:s.dir.length≤256
theorem iV.mono {e:dr} {a b:Int} (h:iV e a) (c:a≤b):iV e b:=⟨h.pl,h.pos,by have:=h.id;omega,h.mj⟩
theorem hA.mono {s:du} {a b:Int} (h:hA s a) (c:a≤b):hA s b:=⟨h.most,h.len,by have:=h.ids;omega,h.e9,h.qs,h.dir⟩
theorem yL {s:du} {N:Int} (h:hA s N) {n:Nat} (g:1≤n∧n≤4) {p:bh} (ai:em p):hA (fP s n p) (N+1):=by
 have i:=h.most;have m:=h.len;have hi:=h.ids
 have j:iV ⟨0,false,false,s.dir,[],s.ids+1,List.replicate n p⟩ (s.ids+1):=⟨by simpa using g,λq k=>(m7 k).symm▸ai,by dsimp only;omega,by simpa using h.dir⟩
 have c: ∀e∈s.blocks++[⟨0,false,false,s.dir,[],s.ids+1,List.replicate n p⟩],iV e (s.ids+1):=λe he=>by
  rcases db.1 he with he | he
  exact (h.e9 e he).mono aa;rw[ey] at he;exact he▸j
 have d: (s.blocks++[(⟨0,false,false,s.dir,[],s.ids+1,List.replicate n p⟩ :dr)]).Pairwise (λa b=>a.id<b.id):=
  List.pairwise_append.2 ⟨h.qs,List.pairwise_singleton _ _,λa l b f=>by
   rw[ey] at f;subst f
   have:=(h.e9 a l).id
   dsimp only;omega⟩
 unfold fP;refine⟨i,?_,⟨by dsimp only;omega,by dsimp only;omega⟩,?_,?_,h.dir⟩;dsimp only;split
 rw[List.length_tail];rw[b8,iC] at *;omega
 omega
 dsimp only;intro e he;split at he
 exact c e (List.mem_of_mem_tail he);exact c e he;dsimp only;split
 exact d.sublist (List.tail_sublist _);exact d
theorem vS {s:du} {N:Int} (h:hA s N) {f:dr→dr} (hid: ∀e,(f e).id=e.id) (n: ∀e∈s.blocks,s.blocks.getLast?=some e→iV (f e) s.ids):hA (gr s f) N:=by
 unfold gr setLast;cases d:s.blocks.getLast? with
 | none=>exact⟨h.most,h.len,h.ids,h.e9,h.qs,h.dir⟩
 | some e=>
  have j:s.blocks=s.blocks.dropLast++[e]:=by
   have k:s.blocks≠[]:=λo=>by rw[o] at d;cases d
   rw[uf k] at d
   cases d
   exact (List.dropLast_concat_getLast k).symm
  have i:=h.len
  have l:=h.e9
  have g:=h.qs
  have p:e∈s.blocks:=by rw[j];simp
  rw[j] at i l g
  refine⟨h.most,by dsimp only;rw[b8,iC] at i ⊢;exact i,h.ids,λx c=>?_,?_,h.dir⟩;rcases db.1 c with c | c
  exact l x (db.2 (.inl c));rw[ey] at c;exact c▸n e p d
  rw[List.pairwise_append] at g ⊢
  exact⟨g.1,List.pairwise_singleton _ _,λa q b m=>by
   rw[ey] at m;subst m
   rw[hid];exact g.2.2 a q e av⟩
theorem CF {e:dr} {N:Int} (h:iV e N):em (gI e):=by
 unfold gI;cases a:e.pl.getLast? with
 | none=>rw[List.getLast?_eq_none_iff] at a;have:=h.pl;rw[a] at this;simp at this
 | some p=>rw[List.getLastD_eq_getLast?,a];exact h.pos p (pr a)
theorem CG {a b:bh} (h:em a) (k:em b):em (hz a b):=by unfold hz;split <;> assumption
theorem yM {p:bh} (h:dk p):em p:=by simp only[dk,dR] at h;exact⟨aa,aa⟩
theorem Wi {s:du} {N:Int} (h:hA s N) {p:bh} (ai:em p):em (lA s p):=by
 unfold lA;split
 rename_i e a;exact CG ai (CF (h.e9 e (pr a)))
 exact ai
theorem CH {e:dr} {N:Int} (h:iV e N) {n:Nat} (b:n≤4) {p:bh} (ai:em p):iV (gJ e n p) N:=by
 have:=h.pl
 refine⟨by simp only[gJ,b8,hd];omega,λq a=>?_,h.id,h.mj⟩;rcases db.1 a with a | a
 exact h.pos q a;exact (m7 a).symm▸ai
theorem Wj {s:du} {N:Int} (h:hA s N) (x:kh) (d:x.text.length≤256) (p:bh):hA (fI s x p) (N+1):=by
 have b:hA s (N+1):=h.mono aa
 unfold fI;split
 exact b;rename_i g;have ai:em (lA s p):=Wi h (yM (Classical.byContradiction g))
 split
 exact yL h ⟨aZ,aZ⟩ ai;split
 split
 exact vS b (λ_=>rfl) (λe a _=>CH (h.e9 e a) aZ ai);exact yL h ⟨aZ,aZ⟩ ai;split
 split
 exact vS b (λ_=>rfl) (λe a _=>CH (h.e9 e a) aZ ai);exact yL h ⟨aZ,aZ⟩ ai;split
 split
 exact vS b (λ_=>rfl) (λe a _=>by
  have c:=CH (h.e9 e a) (n:=4) aZ ai
  exact⟨c.pl,c.pos,c.id,c.mj⟩)
 exact b;split
 split
 exact vS b (λ_=>rfl) (λe a _=>⟨(h.e9 e a).pl,(h.e9 e a).pos,(h.e9 e a).id,(h.e9 e a).mj.1,d⟩);exact b;split
 have f:hA { s with dir:=x.text } (N+1):=⟨h.most,h.len,b.ids,h.e9,h.qs,d⟩
 split
 exact vS f (λ_=>rfl) (λe a _=>⟨(h.e9 e a).pl,(h.e9 e a).pos,(h.e9 e a).id,d,(h.e9 e a).mj.2⟩);exact f;exact b
theorem CI (x:ec): ∀l,(ha x l).Sublist l
 | []=>List.Sublist.refl _
 | [_]=>List.Sublist.refl _
 | a::b::l=>by
  unfold ha;split
  exact (CI x (b::l)).cons a;exact List.Sublist.refl _
theorem Wk {s:du} {N:Int} (h:hA s N) (x:ec):hA (mX s x) N:=by
 unfold mX;split
 exact h;have f: ∀e,iV e s.ids→iV (qr x e) s.ids:=λe h=>⟨h.pl,h.pos,h.id,h.mj⟩
 have g: ∀e,iV e s.ids→iV (rD x e) s.ids:=λe h=>⟨by simpa [rD] using h.pl,λp ai=>by
  obtain⟨q,i,rfl⟩:=dX.1 ai;exact Wh (h.pos q i) x,h.id,h.mj⟩
 have b:=CI x s.blocks
 refine⟨h.most,?_,h.ids,λe j=>?_,?_,h.dir⟩;dsimp only;rw[cT];have:=b.length_le
 have:=h.len
 split
 rw[cT];omega
 omega
 obtain⟨a,d,rfl⟩:=dX.1 j;refine g a ?_;split at d
 obtain⟨c,k,rfl⟩:=dX.1 d;exact f c (h.e9 c (b.subset k));exact h.e9 a d;dsimp only;rw[List.pairwise_map];split
 rw[List.pairwise_map];exact h.qs.sublist b;exact h.qs
theorem CJ (q:bh): ∀l,(iw q l).map (·.id)=l.map (·.id)
 | []=>rfl
 | [_]=>rfl
 | e::f::l=>by
  have:=CJ q (f::l)
  simp only[iw,lI] at this ⊢
  rw[this];rfl
structure qt (b:eV):Prop where
 start:em b.start
 input:em b.input
 output:em b.output
 done:em b.done
 stop:em b.stop
 mj:b.dir.length≤256∧b.line.length≤256
theorem yN {l:List bh} {q:bh} (h: ∀p∈l,em p) (a:em q) (i:Nat):em (l.getD i q):=by
 rw[fB];cases hi:l[i]? with
 | none=>exact a
 | some p=>exact h p (dc hi)
theorem Jy {e:dr} {N:Int} (h:iV e N):em (kS e):=by
 unfold kS;cases ai:e.pl with
 | nil=>have:=h.pl;rw[ai] at this;simp at this
 | cons p l=>exact h.pos p (by rw[ai];simp)
theorem Jz {e:dr} {N:Int} (h:iV e N) {q:bh} (a:em q):qt (kT e q):=
 ⟨yN h.pos a 0,yN h.pos a 1,yN h.pos a 2,yN h.pos a 3,a,h.mj⟩
theorem JA {N:Int} {q:bh} (c:em q): ∀l:List dr,(∀e∈l,iV e N)→ ∀b∈iw q l,qt b
 | [],_,b,a=>by cases a
 | [e],h,b,a=>by
  rw[iw,ey] at a
  exact a▸Jz (h e av) c
 | e::f::l,h,b,a=>by
  rw[iw] at a
  rcases eZ.1 a with rfl | a
  exact Jz (h e av) (Jy (h f av));exact JA c (f::l) (λx d=>h x (rW _ d)) b a
theorem Wl {s:du} {N:Int} (h:hA s N) {q:bh} (d:em q): ∀b∈ki s q,qt b:=by
 have j:em ⟨0,0⟩:=⟨⟨aZ,aZ⟩,aZ,aZ⟩
 have g: ∀p,em p→qt (gp p):=λp ai=>⟨j,ai,ai,ai,ai,by simp[gp],by simp[gp]⟩
 unfold ki;intro b a;split at a
 rw[ey] at a;exact a▸g q d
 rename_i e l k;have c: ∀x∈e::l,iV x s.ids:=λx m=>h.e9 x (k▸m)
 rcases eZ.1 a with rfl | a
 exact g _ (Jy (c e av));refine JA (CG d (CF (c _ ?_))) _ c b a;rw[List.getLastD_cons];rcases l with _ | ⟨f,l⟩
 simp
 exact rW _ (by rw[List.getLastD_eq_getLast?];cases i: (f::l).getLast? with
  | none=>simp at i
  | some z=>exact pr i)
theorem CK {s:du} (q:bh): (ki s q).length=s.blocks.length+1:=by
 unfold ki;split
 rename_i h;rw[h];rfl
 rename_i e l h;have:=aV List.length (CJ (hz q (gI ((e::l).getLastD e))) (e::l))
 rw[cT,cT] at this
 rw[h,eK,this]
end Go.Proofs.YtoghoobfpcadbaaGreatDoor.Mq
namespace Go.Proofs.YtoghoobfpcadbaaGreatDoor.Mq
open Go Go.RowKit Go.Proofs Tryz
structure a_ where
 g:Nat
 code:Int
 has:Bool
 cut:Bool
 dir:List UInt8
 line:List UInt8
 id:Int
 cc:bh
 dS:bh
 gg:bh
 mS:bh
 br:Nat
abbrev kU (e:a_):List Value:=[.int .i64 e.code,.bool e.has,.bool e.cut,.string (bs e.dir),.string (bs e.line),.int .u64 e.id,.int .i64 e.cc.row,.int .i64 e.cc.dp,.int .i64 e.dS.row,.int .i64 e.dS.dp,.int .i64 e.gg.row,.int .i64 e.gg.dp,.int .i64 e.mS.row,.int .i64 e.mS.dp,.int .i64 (e.br:Int)]
abbrev a_.an (e:a_):Chunk:=aE e.g (kU e) 137
def a_.at_ (e:a_) (i:Nat):bh:=match i with | 0=>e.cc | 1=>e.dS | 2=>e.gg | _=>e.mS
def a_.set (e:a_) (i:Nat) (p:bh):a_:=match i with | 0=>{ e with cc:=p } | 1=>{ e with dS:=p } | 2=>{ e with gg:=p } | _=>{ e with mS:=p }
def a_.pl (e:a_):List bh:=[e.cc,e.dS,e.gg,e.mS].take e.br
def a_.abs (e:a_):dr:=⟨e.code,e.has,e.cut,e.dir,e.line,e.id,e.pl⟩
theorem JB (e:a_) (i:Nat) (p:bh) (h:i<4):cZ (kU e) (6+i*2) p.enc=kU (e.set i p):=by
 match i,h with
 | 0,_=>rfl
 | 1,_=>rfl
 | 2,_=>rfl
 | 3,_=>rfl
theorem CL (e:a_) (i:Nat) (h:i<4): ∀j u,(e.at_ i).enc[j]? = some u→(kU e)[6+i*2+j]? = some u:=by
 intro j u a;match j with
 | 0=>cases a;match i,h with
  | 0,_=>rfl
  | 1,_=>rfl
  | 2,_=>rfl
  | 3,_=>rfl
 | 1=>cases a;match i,h with
  | 0,_=>rfl
  | 1,_=>rfl
  | 2,_=>rfl
  | 3,_=>rfl
 | j+2=>cases a
theorem JC (e:a_) (i:Nat) (p:bh): (e.set i p).g=e.g:=by unfold a_.set;split <;> rfl
theorem Wm (e:a_) (i:Nat) (p:bh): (e.set i p).br=e.br:=by unfold a_.set;split <;> rfl
theorem lB (e:a_) (h:e.br≤4):e.pl.length=e.br:=by simp[a_.pl];omega
theorem vT (e:a_) (h:e.br≤4) {i:Nat} (hi:i<e.br):e.pl[i]? = some (e.at_ i):=by
 unfold a_.pl;rw[iB,ay hi];match i,(show i<4 by omega) with
 | 0,_=>rfl
 | 1,_=>rfl
 | 2,_=>rfl
 | 3,_=>rfl
theorem Wn (e:a_) (h:1≤e.br∧e.br≤4):gI e.abs=e.at_ (e.br - 1):=by
 unfold gI;rw[List.getLastD_eq_getLast?,List.getLast?_eq_getElem?];show (e.pl[e.pl.length - 1]?).getD _=_
 rw[lB e h.2,vT e h.2 aa];rfl
theorem vU (e:a_) (h:1≤e.br∧e.br≤4):kS e.abs=e.cc:=by
 unfold kS;rw[List.headD_eq_head?_getD,List.head?_eq_getElem?];show (e.pl[0]?).getD _=_
 rw[vT e h.2 aa];rfl
theorem Wo (e:a_) (p:bh) (h:e.br<4): ({ e.set e.br p with br:=e.br+1 }:a_).abs= { e.abs with pl:=e.pl++[p] }:=by
 obtain⟨g,code,has,cut,dir,line,id,cc,dS,gg,mS,br⟩:=e;match br,(show br<4 from h) with
 | 0,_=>rfl
 | 1,_=>rfl
 | 2,_=>rfl
 | 3,_=>rfl
theorem Wp (e:dr) (k:Nat) (p:bh) (h:e.pl.length≤k):gJ e (k+1) p= { gJ e k p with pl:=(gJ e k p).pl++[p] }:=by
 unfold gJ;rw[show k+1 - e.pl.length=(k - e.pl.length)+1 by omega,List.replicate_succ',fh]
theorem CM (e:dr) (k:Nat) (p:bh) (h:k≤e.pl.length):gJ e k p=e:=by
 unfold gJ;rw[show k - e.pl.length=0 by omega];simp
def jP:bx Nat:=⟨λg=>[ptr g],1,λ_=>rfl,λ_=>aH.cons rfl aH.nil⟩
structure cK where
 g:Nat
 A:Option Addr
 c:Nat
 l:List a_
 most:Int
 ids:Int
 dir:List UInt8
abbrev rE (s:cK):List Value:=[.slice s.A s.l.length s.c,.int .i64 s.most,.int .u64 s.ids,.string (bs s.dir)]
abbrev cK.an (s:cK):Chunk:=aE s.g (rE s) 140
abbrev eo (A:Option Addr) (c:Nat) (l:List a_):Chunk:=gH 131 jP.sz A l.length c (jP.all (l.map a_.g))
abbrev eQ (l:List a_):Chunk:=aU (l.map a_.an)
abbrev cX (s:cK):List Chunk:=[s.an,eo s.A s.c s.l,eQ s.l]
def cK.abs (s:cK):du:=⟨s.l.map a_.abs,s.most,s.ids,s.dir⟩
abbrev gt (l:List a_):Prop:= ∀e∈l,1≤e.br∧e.br≤4
structure fJ (s:cK) (N:Int):Prop where
 wf:hA s.abs N
 br:gt s.l
theorem fJ.len {s:cK} {N:Int} (h:fJ s N): (s.l.length:Int)≤s.most∧1≤s.most∧s.most≤10000:=by
 have a:=h.wf.len
 have b:=h.wf.most
 simp only[cK.abs,cT] at a b
 omega
theorem n2 {w:World} {c:Nat} {l:List a_} {g o:Nat} (h: (eo (some ⟨g,o,none⟩) c l).pred w) {k:Nat} {e:a_} (b:l[k]? = some e):w.cell? ((⟨g,o,none⟩ :Addr).add (k*1))=some (ptr e.g):=by
 have:=V8 (E:=jP) h av rfl (k:=k) (a:=e.g) (by rw[eJ,b];rfl) 0 (ptr e.g) rfl
 rw[Addr.add_lit,Addr.add_lit,Nat.add_zero] at this
 rw[Addr.add_lit];exact this
theorem ml {w:World} {l:List a_} (h: (eQ l).pred w) {e:a_} (a:e∈l):e.an.pred w:=h e.an (dX.2 ⟨e,a,rfl⟩)
theorem vV (w:World) (a b:Int):Calls prog 121 [.pointer none,.int .i64 a,.int .i64 b].toArray w (Pure (.bool false) w):=by
 refine aW func121 ntmps121 ?_;refine xh ?_;intro d c;exact⟨rfl,c.ext⟩
theorem CN (w:World) (p:bh):Calls prog 78 [ee p].toArray w (Pure (.bool (decide (dk p))) w):=by
 refine aW func78 ntmps78 ?_;refine ah ?_;intro h i j;refine aJ ?_;refine aX 6 rfl (λb=>?_) (λb=>?_);have e:=a1 b
 refine aL ?_;refine aX 11 rfl (λaK=>?_) (λaK=>?_);have f:=a1 aK
 refine aL ?_;refine aX 16 rfl (λc=>?_) (λc=>?_);have g:=a1 c
 refine bB ?_;intro d a;exact⟨by rw[Ending.returned.injEq,Value.bool.injEq];symm;simp only[dR,dk] at *;(rw[hf];omega),a.ext⟩;have g:=bc c
 refine aJ ?_;intro d a;exact⟨by rw[Ending.returned.injEq,Value.bool.injEq];symm;simp only[dR,dk] at *;(rw[e1];omega),a.ext⟩;have f:=bc aK
 refine b_ ?_;intro d a;exact⟨by rw[Ending.returned.injEq,Value.bool.injEq];symm;simp only[dR,dk] at *;(rw[e1];omega),a.ext⟩;have e:=bc b
 refine eM ?_;intro d a;exact⟨by rw[Ending.returned.injEq,Value.bool.injEq];symm;simp only[dR,dk] at *;(rw[e1];omega),a.ext⟩
theorem Wq (w:World) (n:Int) (h:1≤n∧n≤10000):Calls prog 30 [.int .i64 n].toArray w
 (aO (λg:Nat=> .tuple #[ptr g,.int .i64 0]) [] (λg=>cX ⟨g,none,0,[],n,0,[]⟩) (λ_=>True) w):=by
 refine aW func30 ntmps30 ?_;refine bB ?_;refine aX 6 rfl (λa=>?_) (λa=>?_);have e:=a1 a
 refine cI ?_;intro d b
 (exfalso;omega)
 have e:=bc a
 refine aD ?_;refine aj (λaK=>?_) (λaK=>?_);refine aJ ?_;intro d b
 (exfalso;omega)
 refine aD ?_;intro f j k;refine al ?_;intro d b;exact aO.bQ f aT rfl ((((b.na (c:=eQ []) (λc i=>by simp at i) rfl).na (c:=eo none 0 []) (V6 _ _ _) rfl)).aw ae)
theorem JD (w:World) (e:a_) (c:e.an.pred w) (ai:1≤e.br∧e.br≤4):Calls prog 53 [ptr e.g].toArray w (Pure (ee (gI e.abs)) w):=by
 rw[Wn e ai];refine aW func53 ntmps53 ?_;refine ah ?_;intro k l m;refine ah ?_;refine bF [0,1,2,3,4,5,6,7,8,9] 1 [[(10,true,[])]] ?_;refine aS ?_;refine aI rfl (λd a=>(a7 bM rfl rfl (λf b=>by subst b;exact a.bZ c (by (simp;done)) rfl) aC)) ?_;refine ah ?_;refine aI rfl (λd a=>(dt (q:=e.br - 1) underlying135 mA rfl rfl rfl aa aa aC)) ?_;refine aI rfl (λd a=>(cy (vs:=(e.at_ (e.br - 1)).enc) dN rfl rfl rfl (λf b j u h=>by subst b;rw[Addr.add_lit];exact a.bZ c av (CL e (e.br - 1) aa j u h)) aC)) ?_;refine aJ ?_;intro n i;exact⟨rfl,i.ext⟩
theorem vW (w:World) (e:a_) (h:e.an.pred w) (a b:Int):Calls prog 121 [ptr e.g,.int .i64 a,.int .i64 b].toArray w (Pure (.bool (decide (a≤(e.br:Int)∧(e.br:Int)≤b))) w):=by
 refine aW func121 ntmps121 ?_;refine et ?_;refine a7 bM rfl rfl (λi c=>c.bZ h (by (simp;done)) rfl) ?_;refine al ?_;refine aX 17 rfl (λd=>?_) (λd=>?_);have j:=a1 d
 refine aD ?_;refine a7 bM rfl rfl (λi c=>c.bZ h (by (simp;done)) rfl) ?_;refine aR ?_;intro k f;exact⟨by rw[Ending.returned.injEq,Value.bool.injEq];symm;(rw[hf];omega),f.ext⟩;have j:=bc d
 refine bB ?_;intro k f;exact⟨by rw[Ending.returned.injEq,Value.bool.injEq];symm;(rw[e1];omega),f.ext⟩
theorem yO (w:World) (e:a_) (b:e.an.pred w) (ai:e.br≤4):Calls prog 75 [ptr e.g].toArray w (Pure (.slice (some ⟨e.g,6,none⟩) e.br 4) w):=by
 refine aW func75 ntmps75 ?_;refine al ?_;refine bF [0,1,2,3,4,5,6,7,8] 0 [[]] ?_;refine al ?_;refine aI rfl (λc a=>(a7 bM rfl rfl (λh d=>by subst d;exact a.bZ b (by (simp;done)) rfl) aC)) ?_;refine aI rfl (λc a=>(Jw (sz:=2) e.br underlying135 sizeOf51 rfl rfl (.inl ⟨_,_,rfl,rfl,rfl⟩) ai aC)) ?_;refine al ?_;intro i f;exact⟨rfl,f.ext⟩
theorem Wr (w:World) (s:cK) (a:s.an.pred w):Calls prog 50 [ptr s.g].toArray w (Pure (.int .i64 (s.l.length:Int)) w):=by
 refine aW func50 ntmps50 ?_;refine hr ?_;refine a7 mB rfl rfl (λd b=>b.bZ a (by (simp;done)) rfl) ?_;refine al ?_;intro e c;exact⟨rfl,c.ext⟩
theorem CO (w:World) (s:cK) (f:s.an.pred w) (ai: (eo s.A s.c s.l).pred w):Calls prog 52 [ptr s.g].toArray w (Pure (match s.l.getLast? with | some e=>ptr e.g | none=> .pointer none) w):=by
 have m:=yJ ai
 have t:=m.2.1
 simp only[maxLen] at t
 refine aW func52 ntmps52 ?_;rcases gM s.l.length with h | h
 have u:s.l=[]:=iZ h
 refine bp ?_;refine a7 mB rfl rfl (λv i=>i.bZ f (by (simp;done)) rfl) ?_;refine aS ?_;refine aj (λb=>?_) (λb=>?_);refine aL ?_;intro x j;exact⟨by rw[u];rfl,j.ext⟩;exact absurd (show (s.l.length:Int)=0 by omega) b;obtain⟨y,o,n⟩:=m.2.2 h;obtain⟨e,p⟩ : ∃e,s.l[s.l.length - 1]? = some e:=⟨_,bG aa⟩;rw[n] at ai
 rw[List.getLast?_eq_getElem?,p];refine bp ?_;refine a7 mB rfl rfl (λv i=>i.bZ f (by (simp;done)) rfl) ?_;refine aS ?_;refine aj (λb=>?_) (λb=>?_);exact absurd b aa;refine ah ?_;refine bF [0,1,2,3,4,5,6,7,8,9,10,11,12] 0 [[]] ?_;refine ah ?_;refine aI rfl (λk a=>(a7 mB rfl rfl (λr d=>by subst d;exact a.bZ f (by (simp;done)) rfl) aC)) ?_;refine ah ?_;refine aI rfl (λk a=>(a7 mB rfl rfl (λr d=>by subst d;exact a.bZ f (by (simp;done)) rfl) aC)) ?_;refine aq ?_;refine aI rfl (λk a=>(bw (q:=s.l.length - 1) k7 rfl rfl rfl n aa aa aC)) ?_;refine aI rfl (λk a=>(a7 ne rfl rfl (λr d=>by subst d;exact a.ct (n2 ai p) av) aC)) ?_;refine al ?_;intro x j;exact⟨rfl,j.ext⟩
end Go.Proofs.YtoghoobfpcadbaaGreatDoor.Mq
