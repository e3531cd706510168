/- part 35 of the proof -/
import Derived.Test.YtoghoobfpcadbaaGreatDoorQ34
namespace Go.Proofs.YtoghoobfpcadbaaGreatDoor.Mq
open Go Go.RowKit Go.Proofs Tryz
theorem WQ {P:Program} {n:Nat} {ops:Array Oper} {Q:cq} {rest:List Oper} {l:Fr} {d:Nat} {ty:TypeId} {pos:String} {a6:Array Edge} {H:World→Prop} {x i:Operand} {t e sz a:Nat} {z:List Value} {g o m c q:Nat} {k:IntKind} {j:Int} (b:c6 P t e sz a z) (ak:Nat.blt d n=true) (f:ba l x=some (.slice (some ⟨g,o,none⟩) m c)) (hi:ba l i=some (.int k j))
 (p:j=(q:Int)) (r:q<m) (h:az P n ops Q rest ((d,.pointer (some ⟨g,o+q*sz,none⟩))::l) H):az P n ops Q (⟨some d,.indexAddr t x i,ty,pos,a6,none⟩::rest) l H:=
 bw b ak f hi rfl p r (by rw[Addr.add_lit];exact h)
def qu (x:ec):Nat→a_→a_
 | 0,e=>e
 | j+1,e=>(qu x j e).set j (lz (e.at_ j) x)
theorem CX (x:ec) (e:a_): ∀j,(qu x j e).g=e.g
 | 0=>rfl
 | j+1=>by rw[qu,JC,CX x e j]
theorem WR (x:ec) (e:a_) {j:Nat} (h:j<4): (qu x j e).at_ j=e.at_ j:=by
 match j,h with
 | 0,_=>rfl
 | 1,_=>rfl
 | 2,_=>rfl
 | 3,_=>rfl
def mY (x:ec) (e:a_):a_:=qu x e.br e
theorem JN (x:ec) {e:a_} (h:1≤e.br∧e.br≤4): (mY x e).abs=rD x e.abs∧(mY x e).br=e.br:=by
 obtain⟨g,code,has,cut,dir,line,id,cc,dS,gg,mS,br⟩:=e;match br,h with
 | 1,_=>exact⟨rfl,rfl⟩
 | 2,_=>exact⟨rfl,rfl⟩
 | 3,_=>exact⟨rfl,rfl⟩
 | 4,_=>exact⟨rfl,rfl⟩
 | n+5,h=>exact absurd h.2 (by show ¬n+5≤4;omega)
 | 0,h=>exact absurd h.1 (by show ¬1≤0;decide)
theorem WS (x:ec) {l:List a_} (h:gt l): (l.map (mY x)).map a_.abs=(l.map a_.abs).map (rD x):=by
 rw[lJ,lJ];exact uh (λe a=>(JN x (h e a)).1)
theorem WT (x:ec) {l:List a_} (h:gt l):gt (l.map (mY x)):=λe a=>by
 obtain⟨d,ak,rfl⟩:=dX.1 a;rw[(JN x (h d ak)).2];exact h d ak
structure vZ (s:cK) (N:Int) (x:ec) (z:cK):Prop where
 g:z.g=s.g
 ok:fJ z N
 abs:z.abs=mX s.abs x
theorem vZ.of {s z:cK} {N:Int} {x:ec} (b:fJ s N) (c:z.g=s.g) (ai:gt z.l) (a:z.abs=mX s.abs x):vZ s N x z:=⟨c,⟨a▸Wk b.wf x,ai⟩,a⟩
def WU (s:cK) (N:Int) (x:ec) (w:World):Ending→World→Prop:=aO (λ_:cK=> .tuple #[]) (cX s) cX (vZ s N x) w
theorem WV (w:World) (s:cK) (M:a8 w (cX s)) {N:Int} (n:fJ s N) (x:ec):Calls prog 65 [ptr s.g,rC x].toArray w (WU s N x w):=by
 have O:=n.len
 have D:=n.br
 obtain⟨g,A,c,l,most,ids,dir⟩:=s;dsimp only at O D
 refine bC func65 ntmps65 M ?_;refine ah ?_;intro d Za Zb;refine bp ?_;refine ao rfl wO rfl (λb p=>yI b x) ?_;refine ax ?_;refine b6 rfl (λr=>?_) (λr=>?_);have E: ¬d9 x:=λh=>by rw[b5 h] at r;exact absurd r aZ
 refine ah ?_;intro P y;exact aO.bQ ⟨g,A,c,l,most,ids,dir⟩ (vZ.of n rfl D (by unfold mX;rw[ay E])) rfl (y.aw (aB.cons cB (aB.cons cB (aB.cons cB aB.nil))));have E: ¬¬d9 x:=λh=>by rw[bO h] at r;exact absurd r aZ
 refine aR ?_;refine hK (λ_:Option Addr × Nat × List a_=>[(0,ptr g),(3,ptr d)]) (λt=>af w (aA (cX ⟨g,A,c,l,most,ids,dir⟩)) (aE d x.enc 167::cX ⟨g,t.1,t.2.1,t.2.2,most,ids,dir⟩)) (λt=>gt t.2.2∧t.2.2.map a_.abs=(if x.kind=2 then (ha x (l.map a_.abs)).map (qr x) else l.map a_.abs)) ?_ ?_;refine pA rfl (λF=>?_) (λF=>?_);refine ah ?_;refine aY (l0:=cX ⟨g,A,c,l,most,ids,dir⟩) (aB.cons cB (aB.cons cB (aB.cons cB aB.nil))) rfl MU rfl (λb p=>WP b ⟨g,A,c,l,most,ids,dir⟩ (p.bo (aB.cons cB (aB.cons cB (aB.cons cB aB.nil)))) n x) (λt K=>?_);refine ar ?_;exact dw t ⟨K.1,by rw[ay F];exact K.2⟩ (iJ rfl rfl) (λ_ h=>h.aw (aB.cons nr (aB.cons bi (aB.cons bi (aB.cons bi aB.nil)))));refine ar ?_;exact dw (A,c,l) ⟨D,by rw[ag F]⟩ (iJ rfl rfl) (λ_ h=>h.aw (aB.cons bi (aB.cons bi (aB.cons bi (aB.cons bi aB.nil)))));rintro⟨v,c1,l1⟩ ⟨a,G⟩;dsimp only at a G ⊢
 have Zc:l1.length≤10000:=by
  have B:=aV List.length G
  have Q:=(CI x (l.map a_.abs)).length_le
  rw[cT] at B Q
  split at B
  rw[cT] at B;omega
  rw[cT] at B;omega
 refine bB ?_;refine b1 (ι:=Nat) (λi=>[(3,ptr d),(25,.slice v l1.length c1),(26,.int .i64 (l1.length:Int)),(27,.int .i64 (i:Int))]) (λi=>af w (aA (cX ⟨g,A,c,l,most,ids,dir⟩)) [aE d x.enc 167,aE g [.slice v l1.length c1,.int .i64 most,.int .u64 ids,.string (bs dir)] 140,eo v c1 l1,eQ (iW (mY x) l1 i)]) (λi=>i≤l1.length) (λi=>l1.length - i) ?_ ?_;exact λw' H=>⟨0,bP _,(cw rfl rfl rfl rfl),by rw[JJ];exact H⟩
 intro i hi;refine yK (A:=v) (m:=l1.length) (c:=c1) cu (λR=>?_);refine al ?_;refine pA rfl (λS=>?_) (λS=>?_);obtain⟨e,C⟩ : ∃e,l1[i]? = some e:=⟨_,bG aa⟩;obtain⟨I,o,T⟩:=R.2.2 aa;have U:=a e (dc C)
 subst T;refine CD (L:=(iW (mY x) l1 i).map a_.an) (c:=e.an) (k:=i) nr (by rw[eJ,CU C];rfl) ?_;refine al ?_;refine bw (q:=i) k7 rfl rfl rfl rfl rfl aa ?_;refine a7 ne rfl rfl (λV a=>n2 (a.has hp) C) ?_;refine al ?_;refine ao rfl wK rfl (λb p=>yO b e (p.has aQ) U.2) ?_;refine bp ?_;refine b1 (ι:=Nat) (λj=>[(3,ptr d),(25,.slice (some ⟨I,o,none⟩) l1.length c1),(26,.int .i64 (l1.length:Int)),(27,.int .i64 (i:Int)),(6,.slice (some ⟨e.g,6,none⟩) e.br 4),(33,.slice (some ⟨e.g,6,none⟩) e.br 4),(34,.int .i64 (e.br:Int)),(35,.int .i64 (j:Int))]) (λj=>af w (aA (cX ⟨g,A,c,l,most,ids,dir⟩)) [aE e.g (kU (qu x j e)) 137,aU (((iW (mY x) l1 i).map a_.an).eraseIdx i),aE d x.enc 167,aE g [.slice (some ⟨I,o,none⟩) l1.length c1,.int .i64 most,.int .u64 ids,.string (bs dir)] 140,eo (some ⟨I,o,none⟩) c1 l1]) (λj=>j≤e.br) (λj=>e.br - j) ?_ ?_;exact λw' H=>⟨0,bP _,(xc rfl rfl rfl rfl rfl rfl rfl rfl),H⟩
 intro j Zd;refine al ?_;refine pA rfl (λW=>?_) (λW=>?_);have J:j<4:=by omega
 have X:=WR x e J
 refine aD ?_;refine bw (q:=j) ds rfl rfl rfl rfl rfl aa ?_;refine cy (vs:=(e.at_ j).enc) dN rfl rfl rfl (λV a k u Y=>by rw[Addr.add_lit,Addr.add_lit];exact a.ep Has.head (CL (qu x j e) j J k u (by rw[X];exact Y))) ?_;refine ar ?_;intro Ze Zf Zg;refine aJ ?_;refine ao rfl zJ rfl (λb p=>Cx b (e.at_ j) x) ?_;refine WQ (q:=j) ds rfl rfl rfl rfl aa ?_;refine eW (g:=e.g) (o:=6+j*2) (vs:=(lz (e.at_ j) x).enc) (xs:=kU (qu x j e)) (te:=137) dN rfl rfl (by rw[JB _ _ _ J];exact er) rfl (xb rfl rfl) (by show 6+j*2+2≤15;omega) ?_;refine aD ?_;exact bg (j+1) aa aa (xc rfl rfl rfl rfl rfl rfl rfl rfl) (λ_ h=>h.aw (aB.cons cB (aB.cons cB (aB.cons cB (aB.cons cB (aB.cons cB aB.nil))))));have Z:j=e.br:=by omega
 subst Z;refine aR ?_;exact bg (i+1) aa aa (cw rfl rfl rfl rfl) (λ_ h=>(af.CW (z:=mY x e) (by rw[a_.an,show (mY x e).g=e.g from CX x e _];exact h.aw (aB.cons bi (aB.cons bi (aB.cons bi (aB.cons bi (aB.cons bi aB.nil)))))) C rfl).aw (aB.cons cB (aB.cons cB (aB.cons cB (aB.cons bi aB.nil)))));refine ax ?_;intro P y;refine aO.bQ ⟨g,v,c1,l1.map (mY x),most,ids,dir⟩ (vZ.of n rfl (WT x a) ?_) rfl ?_;unfold mX;rw[ag E];show (⟨_,_,_,_⟩ :du)=⟨_,_,_,_⟩;rw[WS x a,G];rfl
 rw[JK aa] at y;simp only[cX,cK.an,rE,JL (f:=mY x) (λe=>CX x e _),cT];exact y.aw (aB.cons cB (aB.cons cB (aB.cons cB aB.nil)))
theorem JO {w:World} {e:a_} (d:e.an.pred w) (ai:e.br≤4):Rd bW w (λk=>k=e.g) (some ⟨e.g,6,none⟩) e.br 4 e.pl:=by
 refine⟨lB e ai,ai,aZ,λ_=>⟨_,rfl,rfl,λk a j u b f=>?_⟩⟩;have c:=(cY.1 b).1
 rw[lB e ai] at c
 rw[vT e ai c] at b
 cases b
 have h:w.heap[e.g]? = some (.cells (kU e).toArray 137 (0,0)):=d
 rw[Addr.add_lit,Addr.add_lit,cell_of_row w e.g _ _ _ (0,0) h];have:=CL e k aa j u f
 simpa [show bW.sz=2 from rfl] using this
theorem JP {l:List a_}:vR (l.map a_.abs)=l.flatMap a_.pl:=by
 unfold vR;rw[List.flatMap_map];rfl
theorem JQ {l:List a_} (h:gt l) (i:Nat): ((l.take i).flatMap a_.pl).length≤4*i:=by
 induction i with
 | zero=>simp
 | succ i a=>
  rw[gk,ue,b8];cases hi:l[i]? with
  | none=>simp only[Option.toList_none,rR,lH];omega
  | some e=>
   have:=(h e (dc hi)).2
   have b:=lB e this
   simp only[pt,n_,rR,fR];omega
theorem CY (w:World) (s:cK) (u:s.an.pred w) (ai: (eo s.A s.c s.l).pred w) (n: (eQ s.l).pred w) (b:gt s.l) (M:s.l.length≤10000):Calls prog 38 [ptr s.g].toArray w
 (aO (λz:dl=>z.val) [] (λz=>[z.au]) (λz=>z.l=vR s.abs.blocks) w):=by
 have v:=yJ ai
 have y:=JP (l:=s.l)
 refine aW func38 ntmps38 ?_;refine lR ?_;refine a7 mB rfl rfl (λN B=>B.bZ u (by (simp;done)) rfl) ?_;refine aS ?_;refine cL (H':=af w [] [dl.au ⟨none,0,[]⟩]) ?_ (Sub.refl _) (λx C=>C.eO 51 bW);refine ar ?_;refine b1 (ι:=Nat × dl) (λt=>[(3,t.2.val),(11,.slice s.A s.l.length s.c),(12,.int .i64 (s.l.length:Int)),(13,.int .i64 (t.1 :Int))]) (λt=>af w [] [t.2.au]) (λt=>t.1≤s.l.length∧t.2.l=(s.l.take t.1).flatMap a_.pl) (λt=>s.l.length - t.1) ?_ ?_;exact λw' f=>⟨(0,⟨none,0,[]⟩),⟨bP _,rfl⟩,(cw rfl rfl rfl rfl),f⟩
 rintro⟨i,z⟩ ⟨hi,d⟩;dsimp only at hi d ⊢
 have D:=JQ b i
 rw[←d] at D
 refine al ?_;refine aj (λG=>?_) (λG=>?_);obtain⟨e,j⟩ : ∃e,s.l[i]? = some e:=⟨_,bG aa⟩;have a:=dc j
 obtain⟨O,o,p⟩:=v.2.2 aa;have r:=ai
 rw[p] at r
 have H: (s.l.take (i+1)).flatMap a_.pl=z.l++e.pl:=by rw[gk,j,ue,d];simp
 refine al ?_;refine bw (q:=i) k7 rfl rfl rfl p rfl aa ?_;refine a7 ne rfl rfl (λP I=>I.ct (n2 r j) av) ?_;refine al ?_;refine ao rfl wK rfl (λJ K=>yO J e (K.dK (ml n a) av) (b e a).2) ?_;refine rb (E:=bW) (src:=e.pl) (m:=z.l.length) (xs:=bW.all z.l) (F:=λk=>k=e.g) (z.l++e.pl).length (by rw[b8,lB e (b e a).2]) ds rfl rfl rfl (λ_=>by exact cA) (λw' f=>(JO (ml n a) (b e a).2).ext f.ext av) (by simp only[maxLen];have:=(b e a).2;omega) (by have:=(b e a).2;omega) (λdF c9=>?_);refine aL ?_;exact bg (i+1,⟨dF,c9,z.l++e.pl⟩) ⟨aa,H.symm⟩ bm bR (λw' h=>(show af w [] [own 51 bW.sz (.slice dF (z.l++e.pl).length c9) (z.l++e.pl).length (bW.all (z.l++e.pl))] w' from bx.all_append bW z.l e.pl▸h).aw ae);refine bI ?_;intro Q L;exact aN z (by rw[d,ez aa];exact y.symm) L
structure lC (e z:a_):Prop where
 g:z.g=e.g
 br:z.br=e.br
 id:z.id=e.id
 dir:z.dir=e.dir
 line:z.line=e.line
 pos: (∀k,k<e.br→em (e.at_ k))→ ∀k,k<e.br→em (z.at_ k)
theorem lC.refl (e:a_):lC e e:=⟨rfl,rfl,rfl,rfl,rfl,λh=>h⟩
theorem lC.trans {a b c:a_} (h:lC a b) (k:lC b c):lC a c:=⟨k.g.trans h.g,k.br.trans h.br,k.id.trans h.id,k.dir.trans h.dir,k.line.trans h.line,λq i hi=>k.pos (λj d=>h.pos q j (h.br▸d)) i (h.br.symm▸hi)⟩
theorem WW (e:a_) (P:List bh) (ai:P.length≤e.br) (j:e.br≤4) (g: ∀p∈P,em p): ∃z,lC e z∧cZ (kU e) 6 (bW.all P)=kU z:=by
 rcases P with _ | ⟨a,_ | ⟨b,_ | ⟨c,_ | ⟨d,_ | ⟨f,P⟩⟩⟩⟩⟩
 exact⟨e,lC.refl e,rfl⟩;refine⟨{ e with cc:=a },⟨rfl,rfl,rfl,rfl,rfl,λh k i=>?_⟩,rfl⟩;match k,(show k<4 by omega) with
 | 0,_=>exact g a av
 | 1,_=>exact h 1 i
 | 2,_=>exact h 2 i
 | 3,_=>exact h 3 i
 refine⟨{ e with cc:=a,dS:=b },⟨rfl,rfl,rfl,rfl,rfl,λh k i=>?_⟩,rfl⟩;match k,(show k<4 by omega) with
 | 0,_=>exact g a av
 | 1,_=>exact g b av
 | 2,_=>exact h 2 i
 | 3,_=>exact h 3 i
 refine⟨{ e with cc:=a,dS:=b,gg:=c },⟨rfl,rfl,rfl,rfl,rfl,λh k i=>?_⟩,rfl⟩;match k,(show k<4 by omega) with
 | 0,_=>exact g a av
 | 1,_=>exact g b av
 | 2,_=>exact g c av
 | 3,_=>exact h 3 i
 refine⟨{ e with cc:=a,dS:=b,gg:=c,mS:=d },⟨rfl,rfl,rfl,rfl,rfl,λh k i=>?_⟩,rfl⟩;match k,(show k<4 by omega) with
 | 0,_=>exact g a av
 | 1,_=>exact g b av
 | 2,_=>exact g c av
 | 3,_=>exact g d av
 simp only[eK] at ai;omega
structure jt (l M:List a_):Prop where
 len:M.length=l.length
 at_: ∀(k:Nat) (e z:a_),l[k]? = some e→M[k]? = some z→lC e z
theorem jt.refl (l:List a_):jt l l:=⟨rfl,λk e z b a=>by rw[b] at a;cases a;exact lC.refl e⟩
theorem jt.get {l M:List a_} (h:jt l M) {k:Nat} {e:a_} (b:l[k]? = some e): ∃z,M[k]? = some z∧lC e z:=by
 have a:=(cY.1 b).1
 rw[←h.len] at a
 exact⟨M[k],bG a,h.at_ k e _ b (bG a)⟩
theorem jt.map {l M:List a_} {α:Type} (h:jt l M) (f:a_→α) (b: ∀e z,lC e z→f z=f e):M.map f=l.map f:=by
 apply ms
 intro k;rw[eJ,eJ];cases a:l[k]? with
 | none=>rw[km (by rw[h.len];exact List.getElem?_eq_none_iff.1 a)]
 | some e=>
  obtain⟨z,c,ai⟩:=h.get a;rw[c];exact aV some (b e z ai)
theorem jt.last {M:List a_} (s:cK) (h:jt s.l M):eI ({ s with l:=M }:cK).abs=eI s.abs:=by
 have e: (M.map a_.abs).map dr.id=(s.l.map a_.abs).map dr.id:=by
  rw[lJ,lJ];exact h.map _ (λe z ai=>ai.id)
 have a: ∀t:du,eI t=((t.blocks.map dr.id).getLast?).getD 0:=λt=>by
  unfold eI;rw[qE];cases t.blocks.getLast? <;> rfl
 rw[a,a];show (((M.map a_.abs).map dr.id).getLast?).getD 0=(((s.l.map a_.abs).map dr.id).getLast?).getD 0
 rw[e]
theorem jt.set {l M:List a_} (h:jt l M) {i:Nat} {e z:a_} (f:M[i]? = some e) (g:lC e z):jt l (M.set i z):=by
 refine⟨by rw[fL];exact h.len,λk a b d c=>?_⟩;rw[oa] at c
 split at c
 rename_i j;subst j;split at c
 cases c
 exact (h.at_ i a e d f).trans g;cases c
 exact h.at_ k a b d c
theorem JR {e:a_} (h:e.br≤4): (∀p∈e.pl,em p)↔ ∀k,k<e.br→em (e.at_ k):=by
 constructor
 exact λai k a=>ai _ (dc (vT e h a))
 intro ai p c;obtain⟨k,a⟩:=qD c;have b:=(cY.1 a).1
 rw[lB e h] at b
 rw[vT e h b] at a
 cases a
 exact ai k b
theorem jt.ok {s:cK} {N:Int} {M:List a_} (h:jt s.l M) (a:fJ s N):fJ { s with l:=M } N:=by
 have j:gt M:=λz d=>by
  obtain⟨k,g⟩:=qD d;have b:=(cY.1 g).1
  rw[h.len] at b
  have:=h.at_ k _ z (bG b) g
  rw[this.br];exact a.br _ (rV b)
 refine⟨⟨a.wf.most,?_,a.wf.ids,?_,?_,a.wf.dir⟩,j⟩;have:=a.wf.len
 simp only[cK.abs,cT] at this ⊢
 rw[h.len];exact this
 intro x m;obtain⟨z,d,rfl⟩:=dX.1 m;obtain⟨k,g⟩:=qD d;have b:=(cY.1 g).1
 rw[h.len] at b
 have c:=h.at_ k _ z (bG b) g
 have f:=a.wf.e9 _ (dX.2 ⟨_,rV b,rfl⟩)
 have n:=a.br _ (rV b)
 have i:=j z d
 refine⟨?_,?_,?_,?_⟩;show 1≤z.pl.length∧z.pl.length≤4
 rw[lB z i.2];exact i
 exact (JR i.2).2 (c.br▸c.pos ((JR n.2).1 f.pos));show 1≤z.id∧z.id≤s.ids
 rw[c.id];exact f.id
 show z.dir.length≤256∧z.line.length≤256
 rw[c.dir,c.line];exact f.mj
 have c:=a.wf.qs
 have f: ((s.l.map a_.abs).map (·.id)).Pairwise (· < ·):=List.pairwise_map.2 c
 rw[lJ,show ((λx=>x.id) ∘ a_.abs)=a_.id from rfl,←h.map a_.id (λe z d=>d.id)] at f
 show (M.map a_.abs).Pairwise _
 rw[List.pairwise_map];exact List.pairwise_map.1 f
theorem jt.eo {l M:List a_} (h:jt l M) (A:Option Addr) (c:Nat):eo A c M=eo A c l:=by
 show gH _ _ _ M.length _ (jP.all (M.map a_.g))=_
 rw[h.len,h.map a_.g (λe z a=>a.g)]
def WX (s:cK) (N:Int) (w:World):Ending→World→Prop:=aO (λi:Int × cK=> .int .i64 i.1) (cX s) (λi=>cX i.2) (λi=>i.2.g=s.g∧i.2.most=s.most∧fJ i.2 N∧eI i.2.abs=eI s.abs) w
theorem JS {p:Prop} [Decidable p] (h: (!decide p)=false):p:=by simpa using h
structure WY where
 i:Nat
 M:List a_
 A:Option Addr
 m:Nat
 c:Nat
 L:List bh
theorem WZ (w:World) (s:cK) (Ze:a8 w (cX s)) {N:Int} (y:fJ s N) (A:Option Addr) (n c0:Nat) (L:List bh) (H:Rd bW w (λk=>k∉aA (cX s)) A n c0 L) (Zt:n≤1000000):Calls prog 41 [ptr s.g,.slice A n c0].toArray w (WX s N w):=by
 have Zu:=y.len
 have S:=y.br
 have Zv:=H.len
 refine bC func41 ntmps41 Ze ?_;refine e4 ?_;refine aY (l0:=[]) aB.nil rfl zB rfl (λb d=>CY b s (d.has aQ) (d.has bH) (d.has cu) S aa) (λZw Zx=>?_);refine aD ?_;refine pA rfl (λZf=>?_) (λZf=>?_);refine aL ?_;intro I a;exact aO.bQ (1,s) ⟨rfl,rfl,y,rfl⟩ rfl (a.aw (aB.cons cB (aB.cons cB (aB.cons cB aB.nil))));refine bp ?_;refine b1 (ι:=Nat) (λi=>[(0,ptr s.g),(1,.slice A n c0),(20,.slice A n c0),(21,.int .i64 (n:Int)),(22,.int .i64 (i:Int))]) (λ_=>af w (aA (cX s)) (cX s)) (λi=>i≤n∧ ∀k p,k<i→L[k]? = some p→dk p) (λi=>n - i) ?_ ?_;exact λw' C=>⟨0,⟨bP _,λk p B=>absurd B (Nat.not_lt_zero k)⟩,(ea rfl rfl rfl rfl rfl),C.aw (aB.cons cB (aB.cons cB (aB.cons cB aB.nil)))⟩
 rintro i ⟨hi,T⟩;refine al ?_;refine pA rfl (λZg=>?_) (λZg=>?_);obtain⟨v,U⟩ : ∃v,L[i]? = some v:=⟨L[i]'aa,bG _⟩;obtain⟨v2,Zh⟩ : ∃v2,0<i→L[i - 1]? = some v2:=⟨(L[i - 1]?).getD ⟨0,0⟩,λh=>by rw[bG aa];rfl⟩;obtain⟨b2,V,W,X⟩:=H.cells aa;have Y:dk v→ ∀k p,k<i+1→L[k]? = some p→dk p:=λh k p B ai=>by
  rcases Nat.lt_succ_iff_lt_or_eq.1 B with f | f
  exact T k p f ai;rw[f,U] at ai;cases ai;exact h
 refine aD ?_;refine bw (q:=i) ds rfl rfl rfl V rfl aa ?_;refine cy (vs:=v.enc) dN rfl rfl rfl (λJ f j u D=>f.ct (X i v j u U D) (by simp only[block_add];exact W)) ?_;refine ar ?_;intro Zy Zz ZA;refine ax ?_;refine eq [0] 2 [[(1,false,[2,3,4,5,6,7,8,9,10,11,12]),(13,false,[14,15])]] (_) mixed ab (λ_ a=>a.drew) (λ_ h=>h) ?_;refine ah ?_;refine ao rfl zF rfl (λb d=>CN b v) ?_;refine bV (_) (λ_ h=> .inr h) (λ_ h=>h) ?_;refine aq ?_;refine no 30 rfl (λZi=>?_) (λZi=>?_);refine bB ?_;refine bV (λ_=>True) (λ_ h=> .inr ⟨.inr h,h⟩) (λ_ h=>aT) ?_;refine e4 ?_;intro I a;exact aO.bQ (1,s) ⟨rfl,rfl,y,rfl⟩ rfl (a.aw (aB.cons cB (aB.cons cB (aB.cons cB aB.nil))));refine ah ?_;refine no 33 rfl (λaK=>?_) (λaK=>?_);have Zj:=a1 aK
 refine aS ?_;refine aI rfl (λZk Z=>bY rfl rfl (aK) (bw (q:=i - 1) ds rfl rfl rfl V aa aa aC)) ?_;refine aI rfl (λZk Z=>bY rfl rfl (aK) (cy (vs:=v2.enc) dN rfl rfl rfl (λJ Zl j u D=>by subst Zl;exact Z.ct (X (i - 1) v2 j u (Zh aa) D) (by simp only[block_add];exact W)) aC)) ?_;refine aq ?_;refine bY rfl rfl (aK) ?_;refine ao rfl uA rfl (λb d=>vN b v v2) ?_;refine bV (λ_=>True) (λ_ h=> .inr ⟨.inr h,h⟩) (λ_ h=>aT) ?_;refine ax ?_;refine pA rfl (λZm=>?_) (λZm=>?_);refine bB ?_;intro I a;exact aO.bQ (1,s) ⟨rfl,rfl,y,rfl⟩ rfl (a.aw (aB.cons cB (aB.cons cB (aB.cons cB aB.nil))));refine aD ?_;exact bg (i+1) ⟨aa,Y (JS bA)⟩ aa (ea rfl rfl rfl rfl rfl) (λ_ h=>h.aw (aB.cons cB (aB.cons cB (aB.cons cB aB.nil))));have Zj:=bc aK
 refine aL ?_;refine f_ rfl rfl rfl (aK) ?_;refine bV (λ_=>True) (λ_ h=> .inr ⟨.inr h,h⟩) (λ_ h=>aT) ?_;refine bI ?_;exact bg (i+1) ⟨aa,Y (JS bA)⟩ aa (ea rfl rfl rfl rfl rfl) (λ_ h=>h.aw (aB.cons cB (aB.cons cB (aB.cons cB aB.nil))));have ZB:i=n:=by omega
 have Zn: ∀p∈L,dk p:=λp ai=>by
  obtain⟨k,B⟩:=qD ai;have:=(cY.1 B).1
  exact T k p aa B
 refine et ?_;refine b1 (ι:=WY) (λt=>[(1,.slice t.A t.m t.c),(47,.slice s.A s.l.length s.c),(48,.int .i64 (s.l.length:Int)),(49,.int .i64 (t.i:Int))]) (λt=>af w (aA (cX s)) [s.an,eo s.A s.c s.l,eQ t.M]) (λt=>t.i≤s.l.length∧jt s.l t.M∧Rd bW w (λk=>k∉aA (cX s)) t.A t.m t.c t.L∧ ∀p∈t.L,dk p) (λt=>s.l.length - t.i) ?_ ?_;exact λw' C=>⟨⟨0,s.l,A,n,c0,L⟩,⟨bP _,jt.refl _,H,Zn⟩,(cw rfl rfl rfl rfl),C.aw (aB.cons bi (aB.cons bi (aB.cons bi aB.nil)))⟩
 rintro⟨j,M,ZC,m,c1,K⟩ ⟨D,x,G,O⟩;dsimp only at D x G O ⊢
 refine yK (A:=s.A) (m:=s.l.length) (c:=s.c) bH (λZo=>?_);refine al ?_;refine pA rfl (λZp=>?_) (λZp=>?_);obtain⟨e,P⟩ : ∃e,s.l[j]? = some e:=⟨_,bG aa⟩;obtain⟨z,Q,Za⟩:=x.get P;obtain⟨Zq,o,Zb⟩:=Zo.2.2 aa;have R:=S e (dc P)
 rw[←Za.br] at R
 have ZD:=G.cap
 have ZE:=G.len
 obtain⟨r,Zr⟩ : ∃r,r=min m z.br:=⟨_,rfl⟩;obtain⟨Zc,Zd,Zs⟩:=WW z (K.take r) (by rw[dv];omega) R.2 (λp ai=>yM (O p (iD ai)));refine CD (L:=M.map a_.an) (c:=z.an) (k:=j) pV (by rw[eJ,Q];rfl) ?_;refine al ?_;refine bw (q:=j) k7 rfl rfl rfl Zb rfl aa ?_;refine a7 (v:=ptr z.g) ne rfl rfl (λJ f=>by rw[Za.g];exact n2 (show (eo (some ⟨Zq,o,none⟩) s.c s.l).pred J from Zb▸(f.has (c:=eo s.A s.c s.l) hL)) P) ?_;refine al ?_;refine ao rfl wK rfl (λb d=>yO b z (d.has aQ) R.2) ?_;refine ar ?_;refine Jx (E:=bW) (src:=K) (g:=z.g) (o:=6) (xs:=kU z) (te:=137) (F:=λk=>k∉aA (cX s)) r Zr ds rfl rfl rfl (by rw[Zs];exact cA) (λw' C=>G.ext C.ext (λ_ h=>h)) (by show 6+z.br*2≤15;omega) ?_;refine al ?_;refine ft r m ds rfl rfl (.inl ⟨_,_,rfl,rfl,rfl⟩) (.inr ⟨rfl,rfl⟩) aa aa ?_;refine aL ?_;exact bg ⟨j+1,M.set j Zc,_,m - r,c1 - r,(K.take m).drop r⟩ ⟨by dsimp only;omega,x.set Q Zd,G.cut aa (ch _),λp ai=>O p (iD (lK ai))⟩ (by dsimp only;omega) (cw rfl rfl rfl rfl) (λ_ h=>(af.CQ (z:=Zc) (by rw[a_.an,Zd.g];exact h.aw (aB.cons bi (aB.cons bi (aB.cons bi (aB.cons bi aB.nil))))) Q).aw (aB.cons cB (aB.cons cB (aB.cons bi aB.nil))));refine bB ?_;intro I a;refine aO.bQ (0,{ s with l:=M }) ⟨rfl,rfl,x.ok y,x.last s⟩ rfl ?_;simp only[cX,cK.an,rE,x.eo,x.len];exact a.aw (aB.cons bi (aB.cons bi (aB.cons bi aB.nil)))
abbrev eV.enc (b:eV):List Value:=[.int .u64 b.id,.int .i64 b.phase,.int .i64 b.start.row,.int .i64 b.start.dp,.int .i64 b.input.row,.int .i64 b.input.dp,.int .i64 b.output.row,.int .i64 b.output.dp,.int .i64 b.done.row,.int .i64 b.done.dp,.int .i64 b.stop.row,.int .i64 b.stop.dp,.int .i64 b.code,.bool b.has,.bool b.cut,.string (bs b.dir),.string (bs b.line)]
def ix:bx eV:=⟨eV.enc,17,λ_=>rfl,λ_=>by repeat (first | exact aH.nil | refine aH.cons rfl ?_)⟩
structure rF where
 A:Option Addr
 c:Nat
 l:List eV
abbrev rF.val (r:rF):Value:= .slice r.A r.l.length r.c
abbrev rF.au (r:rF):Chunk:=Mq.au 53 ix r.A r.c r.l
abbrev CZ (a b c d:bh):List Value:=[.int .i64 a.row,.int .i64 a.dp,.int .i64 b.row,.int .i64 b.dp,.int .i64 c.row,.int .i64 c.dp,.int .i64 d.row,.int .i64 d.dp]
theorem W0 (e:a_) (q:bh) (h:e.br≤4):cZ (CZ q q q q) 0 (bW.all (e.pl.take e.br))=CZ (e.pl.getD 0 q) (e.pl.getD 1 q) (e.pl.getD 2 q) (e.pl.getD 3 q):=by
 obtain⟨g,code,has,cut,dir,line,id,cc,dS,gg,mS,br⟩:=e;match br,(show br≤4 from h) with
 | 0,_=>rfl
 | 1,_=>rfl
 | 2,_=>rfl
 | 3,_=>rfl
 | 4,_=>rfl
set_option maxHeartbeats 2000000 in
theorem JT (w:World) (e:a_) (d:e.an.pred w) (ai:e.br≤4) (q:bh):Calls prog 54 [ptr e.g,ee q].toArray w (Pure (.agg (kT e.abs q).enc.toArray) w):=by
 have h:=lB e ai
 refine aW func54 ntmps54 ?_;refine ah ?_;intro p r s;refine ar ?_;intro t u v;refine aR ?_;intro i x y;refine aS ?_;refine bF [0,1] 2 [[(2,false,[]),(3,true,[])]] ?_;refine aI rfl (λc a=>(Jw (sz:=2) 4 underlying135 sizeOf51 rfl rfl (.inr ⟨rfl,rfl⟩) aa aC)) ?_;refine ah ?_;refine ao rfl wK rfl (λj l=>yO j e (l.dK d av) ai) ?_;refine ah ?_;refine Jx (E:=bW) (src:=e.pl) (g:=i) (o:=0) (xs:=CZ q q q q) (te:=135) (F:=λk=>k=e.g) e.br aa ds rfl rfl rfl cA (λw' m=>(JO d ai).ext m.ext av) (by show 0+4*2≤8;omega) ?_;refine ax ?_;rw[W0 e q ai];refine bF [0,1,2,3,4,5,6,7,8,9,10,11,12,13,14,15,16,17,18,19,20,21,22,23,24,25,26,27,28,29,30,31,32,33,34,35,36,37,38,39,40,41,42] 1 [[(43,true,[])]] ?_;refine ah ?_;refine aI rfl (λc a=>(a7 pF rfl rfl (λf b=>by subst b;exact a.bZ d (by (simp;done)) rfl) aC)) ?_;refine ah ?_;refine aI rfl (λc a=>(a7 bM rfl rfl (λf b=>by subst b;exact a.bZ d (by (simp;done)) rfl) aC)) ?_;refine aI rfl (λc a=>(dt (q:=0) underlying135 mA rfl rfl rfl bb aa aC)) ?_;refine ar ?_;refine aI rfl (λc a=>(dt (q:=1) underlying135 mA rfl rfl rfl bb aa aC)) ?_;refine ar ?_;refine aI rfl (λc a=>(dt (q:=2) underlying135 mA rfl rfl rfl bb aa aC)) ?_;refine ar ?_;refine aI rfl (λc a=>(dt (q:=3) underlying135 mA rfl rfl rfl bb aa aC)) ?_;refine al ?_;refine aI rfl (λc a=>(a7 bM rfl rfl (λf b=>by subst b;exact a.bZ d (by (simp;done)) rfl) aC)) ?_;refine aS ?_;refine aI rfl (λc a=>(a7 pE rfl rfl (λf b=>by subst b;exact a.bZ d (by (simp;done)) rfl) aC)) ?_;refine aS ?_;refine aI rfl (λc a=>(a7 pE rfl rfl (λf b=>by subst b;exact a.bZ d (by (simp;done)) rfl) aC)) ?_;refine aS ?_;refine aI rfl (λc a=>(a7 k6 rfl rfl (λf b=>by subst b;exact a.bZ d (by (simp;done)) rfl) aC)) ?_;refine aS ?_;refine aI rfl (λc a=>(a7 k6 rfl rfl (λf b=>by subst b;exact a.bZ d (by (simp;done)) rfl) aC)) ?_;refine aI rfl (λc a=>(ko (out:=[.int .u64 e.id,.int .i64 (e.br:Int),.int .i64 (e.pl.getD 0 q).row,.int .i64 (e.pl.getD 0 q).dp,.int .i64 (e.pl.getD 1 q).row,.int .i64 (e.pl.getD 1 q).dp,.int .i64 (e.pl.getD 2 q).row,.int .i64 (e.pl.getD 2 q).dp,.int .i64 (e.pl.getD 3 q).row,.int .i64 (e.pl.getD 3 q).dp,.int .i64 q.row,.int .i64 q.dp,.int .i64 e.code,.bool e.has,.bool e.cut,.string (bs e.dir),.string (bs e.line)]) wG rfl rfl (by simp[hF,putAt,cZ,Value.cells]) aC)) ?_;refine aq ?_;refine eW gy rfl rfl er bb (aH.cons rfl (aH.cons rfl (aH.cons rfl (aH.cons rfl (aH.cons rfl (aH.cons rfl (aH.cons rfl (gb rfl rfl rfl rfl rfl rfl rfl rfl rfl rfl)))))))) (dY rfl) ?_;refine al ?_;intro z n;exact⟨by simp only[kT,a_.abs,h];rfl,n.ext⟩
theorem JU (q:bh) (l:List dr): (iw q l).length=l.length:=by
 have:=aV List.length (CJ q l)
 rwa [cT,cT] at this
theorem JV (q:bh): ∀(l:List dr) (i:Nat) (e:dr),l[i]? = some e→(iw q l)[i]? = some (kT e (match l[i+1]? with | some d=>kS d | none=>q))
 | [],i,e,h=>by cases h
 | [a],0,e,h=>by cases h;rfl
 | [a],i+1,e,h=>by simp at h
 | a::b::l,0,e,h=>by cases h;rfl
 | a::b::l,i+1,e,h=>JV q (b::l) i e h
theorem W1 {s:cK} {e f:a_} (b:s.l[0]? = some f) (d:s.l.getLast?=some e) (q:bh):ki s.abs q=gp (kS f.abs)::iw (hz q (gI e.abs)) (s.l.map a_.abs):=by
 obtain⟨g,A,c,l,most,ids,dir⟩:=s;cases l with
 | nil=>cases b
 | cons a l=>
  cases b
  have h: ((f::l).map a_.abs).getLastD f.abs=e.abs:=by
   rw[List.getLastD_eq_getLast?,qE,d];rfl
  show gp (kS f.abs)::iw (hz q (gI (((f::l).map a_.abs).getLastD f.abs))) ((f::l).map a_.abs)=_
  rw[h]
set_option maxHeartbeats 1000000 in
theorem JW (w:World) (s:cK) (n:s.an.pred w) (ai: (eo s.A s.c s.l).pred w) (y: (eQ s.l).pred w) (p:gt s.l) (Zl:s.l.length≤10000) (q:bh):Calls prog 25 [ptr s.g,ee q].toArray w
 (aO (λz:rF=>z.val) [] (λz=>[z.au]) (λz=>z.l=ki s.abs q) w):=by
 have W:=yJ ai
 refine aW func25 ntmps25 ?_;refine ah ?_;intro O Zm Zn;refine aD ?_;refine ao rfl Mt rfl (λa b=>Wr a s (b.dK n av)) ?_;refine ah ?_;refine aj (λP=>?_) (λP=>?_);have X:s.l=[]:=iZ aa
 refine al ?_;refine ko (out:=eV.enc (gp q)) wG rfl rfl (by simp[hF,putAt,cZ,Value.cells,gp];rfl) ?_;refine dG (E:=ix) (gp q) kq rfl rfl rfl rfl rfl (λZo Zp Zq=>?_);refine al ?_;intro Y D;exact aO.bQ ⟨_,_,[gp q]⟩ (by unfold ki;rw[show s.abs.blocks=s.l.map a_.abs from rfl,X];rfl) rfl (D.aw ae);obtain⟨Z,o,B⟩:=W.2.2 aa;obtain⟨f,F⟩ : ∃f,s.l[0]? = some f:=⟨_,bG aa⟩;obtain⟨e,G⟩ : ∃e,s.l.getLast?=some e:=⟨_,uf (λZa=>P (by rw[Za];rfl))⟩;have Q:=pr G
 have R:=dc F
 have H: (eo (some ⟨Z,o,none⟩) s.c s.l).pred w:=B▸ai
 have Zb:=ml y R
 have Zc:=vU f (p f R)
 have I:=W1 F G q
 obtain⟨T,S⟩ : ∃T,T=hz q (gI e.abs):=⟨_,rfl⟩;rw[←S] at I
 rw[Zc] at I
 refine ah ?_;refine bF [0,1] 4 [[(2,false,[]),(3,false,[]),(4,false,[]),(5,true,[])]] ?_;refine aS ?_;refine ao rfl zC rfl (λa b=>(by have h:=CO a s (b.dK n av) (b.dK ai av);rw[G] at h;exact h)) ?_;refine ah ?_;refine ao rfl Ef rfl (λa b=>JD a e (b.dK (ml y Q) av) (p e Q)) ?_;refine ah ?_;refine ao rfl Ee rfl (λa b=>(by have h:=Jp a q (gI e.abs);rw[←S] at h;exact h)) ?_;refine bV (λ_=>True) (λ_ h=> .inr ⟨.inr ⟨.inr h,cz⟩,cz⟩) (λ_ h=>aT) ?_;refine bB ?_;refine a7 mB rfl rfl (λJ m=>m.bZ n (by (simp;done)) rfl) ?_;refine bw (q:=0) k7 rfl rfl rfl B rfl aa ?_;refine a7 (v:=ptr f.g) ne rfl rfl (λC k=>k.ct (n2 H F) av) ?_;refine aq ?_;refine dt (q:=0) underlying135 mA rfl rfl rfl bb aa ?_;refine cy (vs:=f.cc.enc) dN rfl rfl rfl (λC k j u K=>k.jF (sz:=2) Zb av rfl j u K) ?_;refine ar ?_;intro Zr Zs Zt;refine aJ ?_;refine ko (out:=eV.enc (gp f.cc)) wG rfl rfl (by simp[hF,putAt,cZ,Value.cells,gp];rfl) ?_;refine dG (E:=ix) (gp f.cc) kq rfl rfl rfl rfl rfl (λZu Zv Zw=>?_);refine aJ ?_;refine a7 mB rfl rfl (λJ m=>m.bZ n (by (simp;done)) rfl) ?_;refine ax ?_;refine b1 (ι:=Nat × rF) (λt=>[(0,ptr s.g),(3,ptr O),(6,t.2.val),(43,.slice s.A s.l.length s.c),(44,.int .i64 (s.l.length:Int)),(45,.int .i64 (t.1 :Int))]) (λt=>af w [] [aE O T.enc 51,t.2.au]) (λt=>t.1≤s.l.length∧t.2.l=gp f.cc::(iw T (s.l.map a_.abs)).take t.1) (λt=>s.l.length - t.1) ?_ ?_;exact λw' Zd=>⟨(0,⟨_,_,[gp f.cc]⟩),⟨bP _,rfl⟩,(gC rfl rfl rfl rfl rfl rfl),Zd.aw ae⟩
 rintro⟨i,z⟩ ⟨hi,r⟩;dsimp only at hi r ⊢
 have Zx:z.l.length=i+1:=by rw[r,eK,dv,JU,cT];omega
 refine al ?_;refine aj (λZe=>?_) (λZe=>?_);obtain⟨d,ak⟩ : ∃d,s.l[i]? = some d:=⟨_,bG aa⟩;have L:=dc ak
 have U:=ml y L
 have x:=JV T (s.l.map a_.abs) i d.abs (by rw[eJ,ak];rfl)
 rw[eJ] at x
 refine aD ?_;refine bw (q:=i) k7 rfl rfl rfl B rfl aa ?_;refine a7 (v:=ptr d.g) ne rfl rfl (λC k=>k.ct (n2 H ak) av) ?_;refine aL ?_;intro Zy Zz ZA;refine bp ?_;refine a7 mB rfl rfl (λJ m=>m.bZ n (by (simp;done)) rfl) ?_;refine aS ?_;refine aj (λZf=>?_) (λZf=>?_);obtain⟨d2,M⟩ : ∃d2,s.l[i+1]? = some d2:=⟨_,bG aa⟩;have V:=dc M
 have Zg:=ml y V
 have Zh:=vU d2 (p d2 V)
 rw[M] at x
 have N: (iw T (s.l.map a_.abs)).take (i+1)=(iw T (s.l.map a_.abs)).take i++[kT d.abs d2.cc]:=by
  rw[gk,x,←Zh];rfl
 refine aS ?_;refine a7 mB rfl rfl (λJ m=>m.bZ n (by (simp;done)) rfl) ?_;refine aq ?_;refine bw (q:=i+1) k7 rfl rfl rfl B rfl aa ?_;refine a7 (v:=ptr d2.g) ne rfl rfl (λC k=>k.ct (n2 H M) av) ?_;refine aq ?_;refine dt (q:=0) underlying135 mA rfl rfl rfl bb aa ?_;refine cy (vs:=d2.cc.enc) dN rfl rfl rfl (λC k j u K=>k.jF (sz:=2) Zg av rfl j u K) ?_;refine aD ?_;refine ao rfl Eg rfl (λa b=>JT a d (b.dK U av) (p d L).2 d2.cc) ?_;refine dG (E:=ix) (kT d.abs d2.cc) kq rfl rfl rfl rfl rfl (λZi Zj Zk=>?_);refine ew (E:=ix) kq rfl rfl rfl bi (λ_ _=>ld) b7 b7 (λZB ZC=>?_);refine aL ?_;exact bg (i+1,⟨_,_,z.l++[kT d.abs d2.cc]⟩) ⟨aa,by dsimp only;rw[N,r];rfl⟩ bm (gC rfl rfl rfl rfl rfl rfl) (λ_ h=>h.aw ae);have N: (iw T (s.l.map a_.abs)).take (i+1)=(iw T (s.l.map a_.abs)).take i++[kT d.abs T]:=by
  rw[km (show s.l.length≤i+1 by omega)] at x
  rw[gk,x];rfl
 refine al ?_;refine ao rfl Eg rfl (λa b=>JT a d (b.dK U av) (p d L).2 T) ?_;refine dG (E:=ix) (kT d.abs T) kq rfl rfl rfl rfl rfl (λZi Zj Zk=>?_);refine ew (E:=ix) kq rfl rfl rfl bi (λ_ _=>ld) b7 b7 (λZD ZE=>?_);refine aL ?_;exact bg (i+1,⟨_,_,z.l++[kT d.abs T]⟩) ⟨aa,by dsimp only;rw[N,r];rfl⟩ bm (gC rfl rfl rfl rfl rfl rfl) (λ_ h=>h.aw ae);refine bI ?_;intro Y D;exact aN z (by rw[r,I,ez (by rw[JU,cT];omega)]) D
theorem W2 {xs vs:List Value} (h:vs.length=xs.length):cZ xs 0 vs=vs:=by
 rw[hl 0 aa,h];simp
theorem bn.whole {cs cs':List Chunk} {g:Nat} {xs vs:List Value} {t:TypeId} (h:bn cs (aE g xs t) (aE g vs t) cs') (a:vs.length=xs.length):bn cs (aE g xs t) (aE g (cZ xs 0 vs) t) cs':=by
 rw[W2 a];exact h
abbrev rG:eV:=⟨0,0,⟨0,0⟩,⟨0,0⟩,⟨0,0⟩,⟨0,0⟩,⟨0,0⟩,0,false,false,[],[]⟩
def rH (r:Option eV):Value:=match r with
 | some b=> .tuple #[.agg b.enc.toArray,.bool true]
 | none=> .tuple #[.agg rG.enc.toArray,.bool false]
set_option maxHeartbeats 1000000 in
theorem W3 (w:World) (s:cK) (x:s.an.pred w) (ai: (eo s.A s.c s.l).pred w) (y: (eQ s.l).pred w) (B:gt s.l) (C:s.l.length≤10000) (id:Int) (q:bh):Calls prog 69 [ptr s.g,.int .u64 id,ee q].toArray w
 (Pure (rH (kj s.abs id q)) w):=by
 have p:=CK (s:=s.abs) q
 rw[show s.abs.blocks=s.l.map a_.abs from rfl,cT] at p
 unfold kj;obtain⟨L,r⟩ : ∃L,L=ki s.abs q:=⟨_,rfl⟩;rw[←r] at p ⊢
 refine aW func69 ntmps69 ?_;refine ah ?_;intro O P Q;refine ar ?_;intro t R S;refine aL ?_;refine aY (l0:=[]) aB.nil rfl D7 rfl (λD a=>JW D s (a.dK x av) (a.dK ai av) (a.dK y av) B C q) (λz d=>?_);refine ax ?_;rw[←r] at d
 refine b1 (ι:=Nat) (λi=>[(1,.int .u64 id),(6,ptr t),(12,z.val),(13,.int .i64 (z.l.length:Int)),(14,.int .i64 (i:Int))]) (λ_=>af w [] [aE t (eV.enc rG) 53,z.au]) (λi=>i≤z.l.length∧L.find? (λb=>decide (b.id=id))=(L.drop i).find? (λb=>decide (b.id=id))) (λi=>z.l.length - i) ?_ ?_;exact λw' F=>⟨0,⟨bP _,rfl⟩,(ea rfl rfl rfl rfl rfl),F.aw ae⟩
 rintro i ⟨hi,G⟩;rw[G];have T:z.l.length=L.length:=by rw[d]
 refine al ?_;refine aj (λH=>?_) (λH=>?_);obtain⟨v,e⟩ : ∃v,z.l[i]? = some v:=⟨_,bG aa⟩;have ak:L.drop i=v::L.drop (i+1):=by
  rw[d] at e
  obtain⟨I,J⟩:=cY.1 e;rw[lG I,J]
 refine al ?_;refine jm (E:=ix) bH kq rfl rfl rfl bb aa (λU K=>?_);refine cy (vs:=v.enc) gy rfl rfl rfl (λM f j u k=>f.fO (E:=ix) bH K e j u k) ?_;refine ar ?_;intro V W X;refine eW (vs:=v.enc) gy rfl rfl (bn.whole cA bb) rfl (aH.cons rfl (aH.cons rfl (aH.cons rfl (aH.cons rfl (aH.cons rfl (aH.cons rfl (aH.cons rfl (gb rfl rfl rfl rfl rfl rfl rfl rfl rfl rfl)))))))) (by exact dY rfl) ?_;refine aR ?_;refine aj (λm=>?_) (λm=>?_);refine aq ?_;refine cy (vs:=v.enc) gy rfl rfl rfl (λM f j u k=>f.k5 (sz:=17) (o:=0) (xs:=v.enc) aQ rfl j u k) ?_;refine eW (vs:=v.enc) gy rfl rfl (bn.whole er bb) rfl (aH.cons rfl (aH.cons rfl (aH.cons rfl (aH.cons rfl (aH.cons rfl (aH.cons rfl (aH.cons rfl (gb rfl rfl rfl rfl rfl rfl rfl rfl rfl rfl)))))))) (by exact dY rfl) ?_;refine aJ ?_;refine ij results69 (cC.eR gy rfl bH rfl rfl) (cC.tmp rfl) (λN n=>?_);exact⟨by rw[ak,List.find?_cons_of_pos (by exact b5 m)];rfl,n.ext⟩;refine aD ?_;exact bg (i+1) ⟨aa,by rw[ak,List.find?_cons_of_neg (by rw[bO m];decide)]⟩ aa bR (λ_ h=>h.aw ae);refine aD ?_;refine ko (out:=eV.enc rG) wG rfl rfl rfl ?_;refine eW (vs:=eV.enc rG) gy rfl rfl (bn.whole cA bb) rfl (aH.cons rfl (aH.cons rfl (aH.cons rfl (aH.cons rfl (aH.cons rfl (aH.cons rfl (aH.cons rfl (gb rfl rfl rfl rfl rfl rfl rfl rfl rfl rfl)))))))) (by exact dY rfl) ?_;refine aS ?_;refine ij results69 (cC.eR gy rfl aQ rfl rfl) (cC.tmp rfl) (λN n=>?_);exact⟨by rw[n9 (l:=L) aa];rfl,n.ext⟩
end Go.Proofs.YtoghoobfpcadbaaGreatDoor.Mq
namespace Go.Proofs.YtoghoobfpcadbaaGreatDoor.Mq
open Go Go.RowKit Go.Proofs
structure hb where
 a:Int
 b:Int
 id:Int
structure ju where
 row:Int
 id:Int
 hid:Int
abbrev hb.enc (f:hb):List Value:=[.int .i64 f.a,.int .i64 f.b,.int .u64 f.id]
abbrev ju.enc (f:ju):List Value:=[.int .i64 f.row,.int .u64 f.id,.int .i64 f.hid]
def mm:bx hb:=⟨hb.enc,3,λ_=>rfl,λ_=>aH.cons rfl (aH.cons rfl (aH.cons rfl aH.nil))⟩
def n3:bx ju:=⟨ju.enc,3,λ_=>rfl,λ_=>aH.cons rfl (aH.cons rfl (aH.cons rfl aH.nil))⟩
def fz (rows:Int):Int→List hb→Bool
 | _,[]=>true
 | e,f::l=>if f.a<e∨f.b≤f.a∨rows<f.b then false else fz rows f.b l
def ia (rows:Int):Int→List hb→List hb
 | _,[]=>[]
 | e,f::l=>
  if max 0 f.a<min f.b rows∧e≤max 0 f.a then ⟨max 0 f.a,min f.b rows,f.id⟩::ia rows (min f.b rows) l else ia rows e l
theorem C0 (rows:Int): ∀(l:List hb) (e:Int),fz rows e (ia rows e l)=true
 | [],_=>rfl
 | f::l,e=>by
  unfold ia;split
  rename_i h;unfold fz;rw[ag bm];exact C0 rows l _;exact C0 rows l e
theorem C1 (rows:Int): ∀(l:List hb) (e:Int),∀g∈ia rows e l,∃f∈l,g.id=f.id∧g.a=max 0 f.a∧g.b=min f.b rows
 | [],_,g,h=>by simp[ia] at h
 | f::l,e,g,h=>by
  unfold ia at h
  split at h
  rcases eZ.1 h with rfl | h
  exact⟨f,by simp,rfl,rfl,rfl⟩;obtain⟨x,c,d⟩:=C1 rows l _ g h;exact⟨x,by simp[c],d⟩;obtain⟨x,c,d⟩:=C1 rows l _ g h;exact⟨x,by simp[c],d⟩
def lD (a:Int):Nat→List ju
 | 0=>[]
 | n+1=>lD a n++[⟨a+n,0,0⟩]
theorem v7 (a:Int): ∀n,(lD a n).length=n
 | 0=>rfl
 | n+1=>by simp[lD,v7 a n]
def mZ (rows:Int):Int→List hb→List ju
 | r,[]=>lD r (rows - r).toNat
 | r,f::l=>lD r (f.a - r).toNat++⟨f.a,f.id,f.b - f.a⟩::mZ rows f.b l
def kW:Int→List ju→Int→Prop
 | a,[],b=>a=b
 | a,x::l,b=>x.row=a∧(x.id=0↔x.hid=0)∧0≤x.hid∧kW (a+max 1 x.hid) l b
theorem C2: ∀(l r:List ju) (a b c:Int),kW a l b→kW b r c→kW a (l++r) c
 | [],r,a,b,c,h,k=>by unfold kW at h;subst h;exact k
 | x::l,r,a,b,c,h,k=>by
  obtain⟨d,e,f,g⟩:=h;exact⟨d,e,f,C2 l r _ b c g k⟩
theorem C3 (a:Int): ∀n:Nat,kW a (lD a n) (a+n)
 | 0=>by simp[lD,kW]
 | n+1=>by
  refine C2 _ _ _ _ _ (C3 a n) ?_;refine⟨rfl,by simp,by simp,?_⟩;simp only[kW];omega
theorem JX (rows:Int): ∀(l:List hb) (r:Int),r≤rows→fz rows r l=true→(∀f∈l,f.id≠0)→kW r (mZ rows r l) rows
 | [],r,e,_,_=>by
  have:=C3 r (rows - r).toNat
  rw[show r+((rows - r).toNat:Int)=rows by omega] at this
  exact this
 | f::l,r,e,c,hid=>by
  unfold fz at c
  split at c
  cases c
  rename_i h;have d:=C3 r (f.a - r).toNat
  rw[show r+((f.a - r).toNat:Int)=f.a by omega] at d
  refine C2 _ _ _ _ _ d ⟨rfl,?_,by dsimp only;omega,?_⟩;have:=hid f av
  dsimp only;omega
  dsimp only;rw[show f.a+max 1 (f.b - f.a)=f.b by omega];exact JX rows l f.b aa c (λg i=>hid g (by simp[i]))
theorem JY (rows:Int): ∀(l:List hb) (r:Int),r≤rows→fz rows r l=true→((mZ rows r l).length:Int)≤rows - r
 | [],r,c,_=>by
  unfold mZ;rw[v7];omega
 | f::l,r,c,a=>by
  unfold fz at a
  split at a
  cases a
  have:=JY rows l f.b aa a
  unfold mZ;rw[b8,eK,v7];omega
end Go.Proofs.YtoghoobfpcadbaaGreatDoor.Mq
