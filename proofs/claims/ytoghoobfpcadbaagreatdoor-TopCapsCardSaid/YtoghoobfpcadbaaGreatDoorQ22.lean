/- part 22 of the proof -/
import Derived.Test.YtoghoobfpcadbaaGreatDoorQ18
import Derived.Test.YtoghoobfpcadbaaGreatDoorQ21
namespace Go.Proofs.YtoghoobfpcadbaaGreatDoor.Mq
open Go Go.RowKit Go.Proofs Tryz
section
abbrev tl (l:List dV):List Chunk:=l.map (λe=>e.nums.aG)
section
variable {b:World} {S:List Nat} {cs:List Chunk} {w:World}
theorem af.BI {l m:List dV} (h:af b S (aU (tl l)::aU (tl m)::cs) w):af b S (aU (tl (l++m))::cs) w:=by
 unfold tl;rw[gf];exact h.BE
theorem af.vu {l:List dV} {e:dV} (h:af b S (aU (tl l)::cs) w) (a:e.nums=qi):af b S (aU (tl (l++[e]))::cs) w:=
 ((h.BD [e] (by simpa using a)).perm (List.Perm.swap _ _ _)).BI
end
def mU (p:cg):List Int→cg→List gW→Prop
 | [],q,cM=>q.h=p.h∧q.state=p.state∧cM=[]
 | [r],q,cM=>0≤r→r<127→q.h=p.h∧q.state=p.state∧cM=[if r<32 then ⟨1,0,r,0,[],[],false⟩ else ⟨0,r,0,0,[],[],false⟩]
 | _::_::_,_,_=>True
theorem mU.step {p q:cg} {L:List Int} {k:Nat} {r:Int} {cM:List gW} (c:L[k]? = some r) (h:k=0→mU p [r] q cM):mU p (L.take (k+1)) q cM:=by
 match L,k,c with
 | a::L,0,c=>
  simp only[qC,dI] at c
  subst c;exact h rfl
 | [_],k+1,c=>simp at c
 | a::b::L,k+1,c=>exact aT
structure lu (p:cg) (L:List Int) (i:Nat × cg × gh):Prop where
 k:i.1≤L.length
 g:i.2.1.g=p.g
 wf:fG i.2.1
 most:i.2.1.most=p.most
 dec:i.2.1.dec=p.dec
 len:i.2.2.l.length≤i.1
 ok: ∀e∈i.2.2.l,l7 e
 R:mU p (L.take i.1) i.2.1 (i.2.2.l.map dV.abs)
theorem lu.zero {p:cg} {L:List Int} (a:fG p):lu p L (0,p,⟨none,0,[]⟩):=⟨bP _,rfl,a,rfl,rfl,by simp,by simp,by simp[mU]⟩
theorem BJ {kind r byte:Int} (a:0≤byte∧byte≤255):l7 (eD kind r byte 0 [] [] false):=⟨BC,by simp[eD],by simp[eD],a,by dsimp only[eD];omega⟩
theorem lu.snoc {p:cg} {L:List Int} {k:Nat} {q:cg} {o:gh} {A:Option Addr} {c:Nat} {r kind r' byte:Int} (h:lu p L (k,q,o)) (a:L[k]? = some r) (i:0≤byte∧byte≤255)
 (j:0≤r→r<127→(⟨kind,r',byte,0,[],[],false⟩ :gW)=if r<32 then ⟨1,0,r,0,[],[],false⟩ else ⟨0,r,0,0,[],[],false⟩):lu p L (k+1,q,⟨A,c,o.l++[eD kind r' byte 0 [] [] false]⟩):=by
 have m:=(cY.1 a).1
 refine⟨m,h.g,h.wf,h.most,h.dec,?_,?_,?_⟩;have:=h.len;simp at this ⊢;omega
 intro e he;rcases db.1 he with he | he
 exact h.ok e he;simp only[ey] at he;subst he;exact BJ i
 refine mU.step a (λn=>?_);subst n;obtain⟨b,d,f⟩:=h.R;dsimp only at b d f ⊢
 intro s t;refine⟨b,d,?_⟩;rw[gf,f,←j s t];rfl
theorem lu.same {p:cg} {L:List Int} {k:Nat} {q:cg} {o:gh} {r:Int} (h:lu p L (k,q,o)) (a:L[k]? = some r) (b:127≤r):lu p L (k+1,q,o):=
 ⟨(cY.1 a).1,h.g,h.wf,h.most,h.dec,Nat.le_succ_of_le h.len,h.ok,mU.step a (λ_ c d=>by omega)⟩
theorem lu.cat {p:cg} {L:List Int} {k:Nat} {q:cg} {o:gh} {A:Option Addr} {c:Nat} {r:Int} {R:cg→List gW→Prop} {z:cg × gh} (h:lu p L (k,q,o)) (b:L[k]? = some r) (f:127≤r) (a:tk q 1 R z) (ak:z.1.dec=q.dec):lu p L (k+1,z.1,⟨A,c,o.l++z.2.l⟩):=by
 refine⟨(cY.1 b).1,a.g.trans h.g,a.wf,a.most.trans h.most,ak.trans h.dec,?_,?_,mU.step b (λ_ i j=>by omega)⟩;have d:=h.len
 have m:=a.len
 simp at d ⊢
 omega
 intro e he;rcases db.1 he with he | he
 exact h.ok e he;exact a.ok e he
def S2 (p:cg) (a:Option Addr × Nat × List Int) (w:World):Ending→World→Prop:=
 aO (λi:cg × gh=>i.2.val) (kJ a::c_ p) (λi=>tj i.1 i.2) (tk p a.2.2.length (λq cM=>q.dec=p.dec∧mU p a.2.2 q cM)) w
abbrev HO (a:Option Addr × Nat × List Int) (i:Nat × cg × gh):List Chunk:=[i.2.1.an,i.2.1.head.au,i.2.1.inter.au,i.2.1.text.au,kJ a,i.2.2.au,i.2.2.cj]
theorem vv (w:World) (p:cg) (a:Option Addr × Nat × List Int) (u:a8 w (kJ a::c_ p)) (v:fG p) (y:a.2.2.length≤2):
 Calls prog 102 [gq p.g,Bx a].toArray w (S2 p a w):=by
 obtain⟨A,c,L⟩:=a;dsimp only at y
 refine calls (n:=47) func102 rfl ntmps102 rfl ?_;refine cL (H':=af w (aA (kJ (A,c,L)::c_ p)) (HO (A,c,L) (0,p,⟨none,0,[]⟩))) ?_ (Sub.refl _) (λx B=>(((u.start x B).eO 158 eP).BD [] av).aw (aB.cons (by exact nr) (aB.cons (by exact nr) (aB.cons (by exact nr) (aB.cons (by exact nr) (aB.cons (by exact pV) (aB.cons (by exact cB) (aB.cons (by exact bi) aB.nil))))))));refine eM ?_;refine b1 (ι:=Nat × cg × gh) (λi=>[(0,gq p.g),(5,i.2.2.val),(8,.slice A L.length c),(9,.int .i64 (L.length:Int)),(10,.int .i64 (i.1 :Int))]) (λi=>af w (aA (kJ (A,c,L)::c_ p)) (HO (A,c,L) i)) (lu p L) (λi=>L.length - i.1) ?_ ?_;exact λw' C=>⟨(0,p,⟨none,0,[]⟩),lu.zero v,(ea rfl rfl rfl rfl rfl),C⟩
 rintro⟨k,q,o⟩ hi;have D:=hi.k
 have F:=hi.len
 have j:=hi.wf
 dsimp only at D F j ⊢
 rw[←hi.g];dsimp only;refine al ?_;refine aj (λG=>?_) (λG=>?_);obtain⟨r,b⟩ : ∃r,L[k]? = some r:=⟨L[k]'aa,bG _⟩;refine al ?_;refine jm (E:=kI) (by exact hp) ox rfl rfl rfl bb aa (λU H=>?_);refine a7 jz rfl rfl (λV I=>I.HA (E:=kI) (by exact hp) H bA _ rfl) ?_;refine bp ?_;refine aj (λd=>?_) (λd=>?_);refine ah ?_;refine dm rfl rfl underlying21 underlying5 rfl ?_;refine ar ?_;refine dG (E:=eP) ⟨_,_,_,_,⟨_,_,_,0,0,[]⟩,_,_,_⟩ gQ rfl rfl rfl rfl rfl (λW X Y=>?_);refine ew (E:=eP) gQ rfl rfl rfl (by exact bi) (λ_ _=>(by exact sD)) b7 b7 (λZ Za=>?_);refine aJ ?_;exact bg (k+1,q,⟨_,_,o.l++[eD 1 0 (IntKind.u8.wrap r) 0 [] [] false]⟩) (hi.snoc b (HH _) (λs t=>by rw[ay d,np aa aa])) (by show L.length - (k+1)<L.length - k;omega) (ea rfl rfl rfl rfl rfl) (λ_ h=>(af.vu (l:=o.l) (h.aw (l:=[o.cj,q.an,q.head.au,q.inter.au,q.text.au,kJ (A,c,L),au 158 eP _ _ (o.l++[eD 1 0 (IntKind.u8.wrap r) 0 [] [] false])]) (aB.cons (by exact Am) (aB.cons (by exact bi) (aB.cons (by exact bi) (aB.cons (by exact bi) (aB.cons (by exact bi) (aB.cons (by exact bi) (aB.cons (by exact bi) aB.nil)))))))) rfl).aw (aB.cons (by exact cB) (aB.cons (by exact cB) (aB.cons (by exact cB) (aB.cons (by exact cB) (aB.cons (by exact cB) (aB.cons (by exact cB) (aB.cons (by exact bi) aB.nil))))))));refine aD ?_;refine aj (λaK=>?_) (λaK=>?_);refine aL ?_;exact bg (k+1,q,o) (hi.same b aa) (by show L.length - (k+1)<L.length - k;omega) bR (λ_ h=>h.aw (aB.cons (by exact bi) (aB.cons (by exact bi) (aB.cons (by exact bi) (aB.cons (by exact bi) (aB.cons (by exact bi) (aB.cons (by exact bi) (aB.cons (by exact bi) aB.nil))))))));refine ax ?_;refine aX 34 rfl (λe=>?_) (λe=>?_);have J:=a1 e
 refine aL ?_;refine aj (λK=>?_) (λK=>?_);refine aS ?_;refine dm rfl rfl underlying21 underlying5 rfl ?_;refine gN rfl rfl rfl rfl ?_;refine aY (l0:=c_ q) (aB.cons (by exact bi) (aB.cons (by exact bi) (aB.cons (by exact bi) (aB.cons (by exact bi) aB.nil)))) rfl Ew rfl (λM N=>HL M q (N.bo (aB.cons (by exact bi) (aB.cons (by exact bi) (aB.cons (by exact bi) (aB.cons (by exact bi) aB.nil))))) j _ (HH _)) (λz f=>?_);have Zb:=f.len
 refine ew (E:=eP) gQ rfl rfl rfl (by exact nt) (λ_ _=>(by exact uL)) b7 aa (λZc Zd=>?_);refine aJ ?_;exact bg (k+1,z.1,⟨_,_,o.l++z.2.l⟩) (hi.cat b aa f f.R.1) (by show L.length - (k+1)<L.length - k;omega) (ea rfl rfl rfl rfl rfl) (λ_ h=>(af.BI (l:=o.l) (m:=z.2.l) (h.aw (l:=[o.cj,z.2.cj,z.1.an,z.1.head.au,z.1.inter.au,z.1.text.au,kJ (A,c,L),au 158 eP _ _ (o.l++z.2.l)]) (aB.cons (by exact An) (aB.cons (by exact nt) (aB.cons (by exact bi) (aB.cons (by exact bi) (aB.cons (by exact bi) (aB.cons (by exact bi) (aB.cons (by exact bi) (aB.cons (by exact bi) aB.nil)))))))))).aw (aB.cons (by exact cB) (aB.cons (by exact cB) (aB.cons (by exact cB) (aB.cons (by exact cB) (aB.cons (by exact cB) (aB.cons (by exact cB) (aB.cons (by exact bi) aB.nil))))))));refine aS ?_;refine dG (E:=eP) ⟨_,_,_,_,⟨_,_,_,0,0,[]⟩,_,_,_⟩ gQ rfl rfl rfl rfl rfl (λO P Q=>?_);refine ew (E:=eP) gQ rfl rfl rfl (by exact bi) (λ_ _=>(by exact sD)) b7 b7 (λZe Zf=>?_);refine aJ ?_;exact bg (k+1,q,⟨_,_,o.l++[eD 0 r 0 0 [] [] false]⟩) (hi.snoc b aZ (λs t=>by rw[ag d])) (by show L.length - (k+1)<L.length - k;omega) (ea rfl rfl rfl rfl rfl) (λ_ h=>(af.vu (l:=o.l) (h.aw (l:=[o.cj,q.an,q.head.au,q.inter.au,q.text.au,kJ (A,c,L),au 158 eP _ _ (o.l++[eD 0 r 0 0 [] [] false])]) (aB.cons (by exact Am) (aB.cons (by exact bi) (aB.cons (by exact bi) (aB.cons (by exact bi) (aB.cons (by exact bi) (aB.cons (by exact bi) (aB.cons (by exact bi) aB.nil)))))))) rfl).aw (aB.cons (by exact cB) (aB.cons (by exact cB) (aB.cons (by exact cB) (aB.cons (by exact cB) (aB.cons (by exact cB) (aB.cons (by exact cB) (aB.cons (by exact bi) aB.nil))))))));have J:=bc e
 refine bp ?_;refine dG (E:=eP) ⟨_,_,_,_,⟨_,_,_,0,0,[]⟩,_,_,_⟩ gQ rfl rfl rfl rfl rfl (λO P Q=>?_);refine ew (E:=eP) gQ rfl rfl rfl (by exact bi) (λ_ _=>(by exact sD)) b7 b7 (λZg Zh=>?_);refine aJ ?_;exact bg (k+1,q,⟨_,_,o.l++[eD 0 r 0 0 [] [] false]⟩) (hi.snoc b aZ (λs t=>by rw[ag d])) (by show L.length - (k+1)<L.length - k;omega) (ea rfl rfl rfl rfl rfl) (λ_ h=>(af.vu (l:=o.l) (h.aw (l:=[o.cj,q.an,q.head.au,q.inter.au,q.text.au,kJ (A,c,L),au 158 eP _ _ (o.l++[eD 0 r 0 0 [] [] false])]) (aB.cons (by exact Am) (aB.cons (by exact bi) (aB.cons (by exact bi) (aB.cons (by exact bi) (aB.cons (by exact bi) (aB.cons (by exact bi) (aB.cons (by exact bi) aB.nil)))))))) rfl).aw (aB.cons (by exact cB) (aB.cons (by exact cB) (aB.cons (by exact cB) (aB.cons (by exact cB) (aB.cons (by exact cB) (aB.cons (by exact cB) (aB.cons (by exact bi) aB.nil))))))));refine bI ?_;intro Zi S;have T:k=L.length:=by omega
 subst T;exact aO.bQ (q,o) ⟨hi.g,hi.wf,hi.most,hi.len,hi.ok,hi.dec,by have:=hi.R;rwa [uk] at this⟩ rfl (S.aw (aB.cons (by exact bi) (aB.cons (by exact bi) (aB.cons (by exact bi) (aB.cons (by exact bi) (aB.cons (by exact cB) (aB.cons (by exact cB) aB.nil)))))))
end
theorem S3 {h:fX} {st most:Int} {c:UInt8} (a:127≤(c.toNat:Int)):jo h st most c=none:=by
 unfold jo;rw[ag (show ¬(c.toNat:Int)=27 by omega),ay (show (c.toNat:Int)=24∨(c.toNat:Int)=26∨127≤(c.toNat:Int) by omega),ag (show ¬((c.toNat:Int)=93∧h.inter.length=0∧h.j_=false) by omega),ag (show ¬(c.toNat:Int)=7 by omega),ag (show ¬(32≤(c.toNat:Int)∧(c.toNat:Int)<127∧(h.text.length:Int)<most) by omega)];simp
theorem iu.none {p q:cg} {c:UInt8} {cM:List gW} (ak:mT q.dec) (h:jo p.h p.state p.most c=none):iu p c q cM:=⟨ak,λ_ _ r a=>by rw[h] at a;cases a⟩
theorem yd {h:fX} {most:Int} {c:UInt8} {r: (fX × Int) × List gW} (e:jo h 1 most c=some r): (c.toNat:Int)=93∧h.inter.length=0∧h.j_=false∧r=((nO,4),[]):=by
 unfold jo at e
 rw[ag aZ,ay rfl] at e
 split at e
 rename_i a;exact⟨a.1,a.2.1,a.2.2,by simpa using e.symm⟩;cases e
theorem tm {h:fX} {st most:Int} {c:UInt8} (a:st≠0) (b:st≠1) (d:st≠4):jo h st most c=none:=by
 unfold jo;rw[ag a,ag b,ag d]
theorem iu.st {p q:cg} {c:UInt8} {cM:List gW} (ak:mT q.dec) (d:p.state≠0) (e:p.state≠4) (f: (c.toNat:Int)≠93):iu p c q cM:=by
 refine⟨ak,λ_ _ r a=>?_⟩;by_cases b:p.state=1
 rw[b] at a;exact absurd (yd a).1 f
 rw[tm d b e] at a;cases a
theorem vw {p:cg} {d:nP} (h:fG p) (ak:mT d):fG (hx p d):=⟨h.head,h.inter,h.text,h.most,ak,h.ak⟩
theorem HP (w:World) (p:cg) (F:a8 w (c_ p)) (d:fG p) (c:UInt8) (j:p.state≠4) (k:p.state≠0):
 Calls prog 108 [gq p.g,.int .u8 (c.toNat:Int)].toArray w (dH p 2 (iu p c) w):=by
 refine bC func108 ntmps108 F ?_;refine b_ ?_;refine aj (λG=>?_) (λG=>?_);refine ah ?_;refine aY (l0:=c_ p) ae rfl hJ rfl (λe f=>hX e p (f.bo ae) d _) (λz m=>?_);refine ah ?_;have H:=m.wf.dec
 rw[←m.g];refine al ?_;refine cE (λe f=>HG e z f H c) (λx q=>?_);refine cE (λe f=>vv e (hx z x.1) x.2 f (vw m.wf q.1) q.2.1) (λy l=>?_);refine aD ?_;intro i a;exact aN y ⟨l.g.trans m.g,l.wf,l.most.trans m.most,fs l.len q.2.1,l.ok,iu.none l.wf.dec (S3 aa)⟩ a;refine ax ?_;refine aX 20 rfl (λaK=>?_) (λaK=>?_);have I:=a1 aK
 refine oD ?_;intro i a;exact dH.n rfl d rfl (iu.st d.dec k j aa) a ae;have I:=bc aK
 refine al ?_;refine aX 23 rfl (λs=>?_) (λs=>?_);have J:=a1 s
 refine dx ?_;refine aj (λK=>?_) (λK=>?_);refine aJ ?_;intro i a;exact dH.n rfl d rfl (iu.st d.dec k j aa) a ae;refine aD ?_;refine aj (λL=>?_) (λL=>?_);refine aS ?_;refine dG (E:=eP) ⟨_,_,_,_,⟨_,_,_,0,0,[]⟩,_,_,_⟩ gQ rfl rfl rfl rfl rfl (λM N O=>?_);refine aD ?_;intro i a;exact dH.z (es:=[eD 1 0 c.toNat 0 [] [] false]) rfl d rfl (by simpa using ⟨rfl,by simp[eD],by simp[eD],qh c,by dsimp only[eD];omega⟩) av (iu.st d.dec k j aa) a ae;refine aR ?_;refine aj (λP=>?_) (λP=>?_);refine aS ?_;refine cE (λe f=>HM e p f d c) (λu b=>?_);refine aD ?_;intro i a;exact aN u ⟨b.g,b.wf,b.most,by have:=b.len;omega,b.ok,⟨b.wf.dec,λ_ _ r o=>by rw[show p.state=1 by assumption] at o;obtain⟨t,A,B,rfl⟩:=yd o;obtain⟨C,D,hR⟩:=b.R.2 A B t;exact⟨b.R.1,C,D,hR⟩⟩⟩ a;refine aD ?_;refine cE (λe f=>HN e p f d c) (λv h=>?_);refine ax ?_;intro i a;exact aN v ⟨h.g,h.wf,h.most,by have:=h.len;omega,h.ok,iu.none h.wf.dec (tm k bA j)⟩ a;have J:=bc s
 refine eM ?_;refine aj (λQ=>?_) (λQ=>?_);refine aS ?_;refine dG (E:=eP) ⟨_,_,_,_,⟨_,_,_,0,0,[]⟩,_,_,_⟩ gQ rfl rfl rfl rfl rfl (λM N O=>?_);refine aD ?_;intro i a;exact dH.z (es:=[eD 1 0 c.toNat 0 [] [] false]) rfl d rfl (by simpa using ⟨rfl,by simp[eD],by simp[eD],qh c,by dsimp only[eD];omega⟩) av (iu.st d.dec k j aa) a ae;refine aR ?_;refine aj (λS=>?_) (λS=>?_);refine aS ?_;refine cE (λe f=>HM e p f d c) (λu b=>?_);refine aD ?_;intro i a;exact aN u ⟨b.g,b.wf,b.most,by have:=b.len;omega,b.ok,⟨b.wf.dec,λ_ _ r o=>by rw[show p.state=1 by assumption] at o;obtain⟨t,A,B,rfl⟩:=yd o;obtain⟨C,D,hR⟩:=b.R.2 A B t;exact⟨b.R.1,C,D,hR⟩⟩⟩ a;refine aD ?_;refine cE (λe f=>HN e p f d c) (λv h=>?_);refine ax ?_;intro i a;exact aN v ⟨h.g,h.wf,h.most,by have:=h.len;omega,h.ok,iu.none h.wf.dec (tm k bA j)⟩ a
theorem HQ {h:fX} {most:Int} {c:UInt8} {r: (fX × Int) × List gW} (e:jo h 0 most c=some r):
 ((c.toNat:Int)=27∧r=((nO,1),[]))∨((c.toNat:Int)≠27∧(c.toNat:Int)≠24∧(c.toNat:Int)≠26∧(c.toNat:Int)<127∧r=((h,0),[if (c.toNat:Int)<32 then ⟨1,0,c.toNat,0,[],[],false⟩ else ⟨0,c.toNat,0,0,[],[],false⟩])):=by
 unfold jo at e
 rw[ay rfl] at e
 split at e
 exact .inl ⟨bA,by simpa using e.symm⟩;split at e
 cases e
 rename_i b d;split at e
 rename_i a;exact .inr ⟨b,aa,aa,aa,by rw[ay a];simpa using e.symm⟩;rename_i a;exact .inr ⟨b,aa,aa,aa,by rw[ag a];simpa using e.symm⟩
theorem HR {h:fX} {st most:Int} {c:UInt8} (a: (c.toNat:Int)=24∨(c.toNat:Int)=26):jo h st most c=none:=by
 unfold jo;rw[ag (show ¬(c.toNat:Int)=27 by omega),ay (show (c.toNat:Int)=24∨(c.toNat:Int)=26∨127≤(c.toNat:Int) by omega),ag (show ¬((c.toNat:Int)=93∧h.inter.length=0∧h.j_=false) by omega),ag (show ¬(c.toNat:Int)=7 by omega),ag (show ¬(32≤(c.toNat:Int)∧(c.toNat:Int)<127∧(h.text.length:Int)<most) by omega)];simp
theorem S4 {h:fX} {st most:Int} {c:UInt8} {r: (fX × Int) × List gW} (f: (c.toNat:Int)=27) (e:jo h st most c=some r):st=0:=by
 apply Classical.byContradiction
 intro d;by_cases a:st=1
 subst a;have:=(yd e).1
 omega
 by_cases b:st=4
 subst b;rcases o4 e with ⟨h,_⟩ | ⟨_,h,_⟩ <;> omega
 rw[tm d a b] at e;cases e
theorem BK {l m:List dV} (h: ∀e∈l,l7 e) (k: ∀e∈m,l7 e): ∀e∈l++m,l7 e:=λe he=>by
 rcases db.1 he with he | he
 exact h e he;exact k e he
theorem S5 {p z:cg} {c:UInt8} {x:nP × Option Addr × Nat × List Int} {y u:cg × gh} (d: (c.toNat:Int)=27)
 (g:mT x.1∧x.2.2.2.length≤1∧x.1.jn≤p.dec.jn∧(p.dec.l6=0→x.1=p.dec∧x.2.2.2=[]))
 (i:tk (hx p x.1) x.2.2.2.length (λq cM=>q.dec=(hx p x.1).dec∧mU (hx p x.1) x.2.2.2 q cM) y)
 (j:tk y.1 1 (λq cM=>q=y.1∧(y.1.state=4→cM=[⟨4,0,0,0,[],y.1.text.l,y.1.cut⟩])∧(y.1.state≠4→y.1.state≠3→cM=[])) u)
 (a:Pa u.1 nO 1 z):iu p c z ((y.2.l++u.2.l).map dV.abs):=by
 refine⟨a.wf.dec,λA k r b=>?_⟩;have e:=S4 d b
 rw[e] at b
 rcases HQ b with ⟨_,rfl⟩ | ⟨h,_⟩
 obtain⟨m,n⟩:=g.2.2.2 k;obtain⟨o,f⟩:=i.R;rw[n] at f
 obtain⟨B,s,t⟩:=f;obtain⟨v,C,w⟩:=j.R;have D:y.1.state=0:=s.trans e
 refine⟨?_,a.h,a.st,?_⟩;rw[a.dec,v,o,m];rw[gf,t,w aa aa];rfl
 exact absurd d h
theorem S6 {p:cg} {c:UInt8} {x:nP × Option Addr × Nat × List Int} {y:cg × gh} (a:p.state=0) (f: (c.toNat:Int)≠27) (g:HE 2 p.dec c x)
 (b:tk (hx p x.1) x.2.2.2.length (λq cM=>q.dec=(hx p x.1).dec∧mU (hx p x.1) x.2.2.2 q cM) y):iu p c y.1 (y.2.l.map dV.abs):=by
 refine⟨b.wf.dec,λi t r d=>?_⟩;rw[a] at d
 rcases HQ d with ⟨h,_⟩ | ⟨_,_,_,u,rfl⟩
 exact absurd h f;obtain⟨j,k⟩:=g.2.2 i aa;obtain⟨m,e⟩:=b.R;rw[k] at e
 obtain⟨n,o,s⟩:=e aa aa;exact⟨by rw[m,j],n,o.trans a,s⟩
theorem S7 (w:World) (p:cg) (H:a8 w (c_ p)) (j:fG p) (c:UInt8):
 Calls prog 62 [gq p.g,.int .u8 (c.toNat:Int)].toArray w (dH p 2 (iu p c) w):=by
 have o:=j.dec
 refine bC func62 ntmps62 H ?_;refine xg ?_;refine aj (λq=>?_) (λq=>?_);have C:=q
 refine aq ?_;refine eA rfl ((b5 C)) ?_;refine al ?_;refine cE (λa b=>Bz a p b o) (λx f=>?_);refine aY (l0:=kJ x.2::c_ (hx p x.1)) ae rfl zI rfl (λa b=>vv a (hx p x.1) x.2 (b.bo ae) (vw j f.1) (by have:=f.2.1;omega)) (λy e=>?_);refine aS ?_;rw[show gq p.g=gq y.1.g by rw[e.g]];refine aq ?_;refine aY (l0:=c_ y.1) ae rfl hJ rfl (λa b=>hX a y.1 (b.bo ae) e.wf _) (λz i=>?_);refine aD ?_;refine dG (E:=eP) ⟨_,_,_,_,⟨_,_,_,0,0,[]⟩,_,_,_⟩ gQ rfl rfl rfl rfl rfl (λI J K=>?_);have D:=fs e.len f.2.1
 refine ew (E:=eP) gQ rfl rfl rfl bi (λ_ _=>jf) b7 b7 (λS T=>?_);refine aD ?_;intro k h
 (refine aO.bQ (z,⟨_,_,y.2.l++[eD 1 0 c.toNat 0 [] [] false]⟩) ?_ rfl ((af.vu (l:=y.2.l) (h.aw (l:=[y.2.cj,z.an,z.head.au,z.inter.au,z.text.au,au 158 eP _ _ (y.2.l++[eD 1 0 c.toNat 0 [] [] false])]) ae) rfl).aw ae);exact⟨i.g.trans e.g,i.wf,i.most.trans e.most,by simp;omega,BK e.ok (by simpa using BJ (qh c)),iu.none i.wf.dec (HR aa)⟩)
 have C:=q
 refine ax ?_;refine aj (λaK=>?_) (λaK=>?_);refine al ?_;refine cE (λa b=>Bz a p b o) (λx f=>?_);refine aY (l0:=kJ x.2::c_ (hx p x.1)) ae rfl zI rfl (λa b=>vv a (hx p x.1) x.2 (b.bo ae) (vw j f.1) (by have:=f.2.1;omega)) (λy e=>?_);refine aS ?_;rw[show gq p.g=gq y.1.g by rw[e.g]];refine aq ?_;refine aY (l0:=c_ y.1) ae rfl hJ rfl (λa b=>hX a y.1 (b.bo ae) e.wf _) (λz i=>?_);refine aD ?_;refine dG (E:=eP) ⟨_,_,_,_,⟨_,_,_,0,0,[]⟩,_,_,_⟩ gQ rfl rfl rfl rfl rfl (λI J K=>?_);have D:=fs e.len f.2.1
 refine ew (E:=eP) gQ rfl rfl rfl bi (λ_ _=>jf) b7 b7 (λU V=>?_);refine aD ?_;intro k h
 (refine aO.bQ (z,⟨_,_,y.2.l++[eD 1 0 c.toNat 0 [] [] false]⟩) ?_ rfl ((af.vu (l:=y.2.l) (h.aw (l:=[y.2.cj,z.an,z.head.au,z.inter.au,z.text.au,au 158 eP _ _ (y.2.l++[eD 1 0 c.toNat 0 [] [] false])]) ae) rfl).aw ae);exact⟨i.g.trans e.g,i.wf,i.most.trans e.most,by simp;omega,BK e.ok (by simpa using BJ (qh c)),iu.none i.wf.dec (HR aa)⟩)
 refine al ?_;refine aj (λL=>?_) (λL=>?_);refine al ?_;refine cE (λa b=>Bz a p b o) (λx f=>?_);refine aY (l0:=kJ x.2::c_ (hx p x.1)) ae rfl zI rfl (λa b=>vv a (hx p x.1) x.2 (b.bo ae) (vw j f.1) (by have:=f.2.1;omega)) (λy e=>?_);rw[show gq p.g=gq y.1.g by rw[e.g]];refine ar ?_;refine cE (λa b=>BG a y.1 b e.wf) (λu d=>?_);have D:=fs e.len f.2.1
 have W:=d.len
 refine ew (E:=eP) gQ rfl rfl rfl nt (λ_ _=>sD) b7 aa (λX Y=>?_);refine aS ?_;rw[show gq y.1.g=gq u.1.g by rw[d.g]];refine aq ?_;refine aY (l0:=c_ u.1) ae rfl hJ rfl (λa b=>hX a u.1 (b.bo ae) d.wf _) (λz i=>?_);refine bB ?_;intro k h
 (refine aO.bQ (z,⟨_,_,y.2.l++u.2.l⟩) ?_ rfl ((af.BI (l:=y.2.l) (m:=u.2.l) (h.aw (l:=[y.2.cj,u.2.cj,z.an,z.head.au,z.inter.au,z.text.au,au 158 eP _ _ (y.2.l++u.2.l)]) ae)).aw ae);exact⟨i.g.trans (d.g.trans e.g),i.wf,i.most.trans (d.most.trans e.most),by simp;omega,BK e.ok d.ok,S5 aa f e d i⟩)
 refine cI ?_;refine aj (λM=>?_) (λM=>?_);refine aD ?_;refine cE (λa b=>HG a p b o c) (λx f=>?_);refine cE (λa b=>vv a (hx p x.1) x.2 b (vw j f.1) f.2.1) (λy e=>?_);refine aD ?_;intro k h;exact aN y ⟨e.g,e.wf,e.most,fs e.len f.2.1,e.ok,S6 bA bA f e⟩ h;refine aL ?_;refine aX 59 rfl (λs=>?_) (λs=>?_);have N:=a1 s
 refine xg ?_;refine cE (λa b=>BH a p b j c) (λu d=>?_);refine aD ?_;intro k h;exact aN u ⟨d.g,d.wf,d.most,by have:=d.len;omega,d.ok,⟨d.wf.dec,λF G r n=>by exact⟨d.R.1,d.R.2 r bA n⟩⟩⟩ h;have N:=bc s
 refine bB ?_;refine aX 66 rfl (λt=>?_) (λt=>?_);have O:=a1 t
 refine kw ?_;refine cE (λa b=>BH a p b j c) (λu d=>?_);refine aD ?_;intro k h;exact aN u ⟨d.g,d.wf,d.most,by have:=d.len;omega,d.ok,⟨d.wf.dec,λF G r n=>by (rw[tm aa aa aa] at n;cases n)⟩⟩ h;have O:=bc t
 refine bB ?_;refine aX 72 rfl (λA=>?_) (λA=>?_);have P:=a1 A
 refine e4 ?_;refine aj (λQ=>?_) (λQ=>?_);refine aS ?_;refine cE (λa b=>BH a p b j c) (λu d=>?_);refine aD ?_;intro k h;exact aN u ⟨d.g,d.wf,d.most,by have:=d.len;omega,d.ok,⟨d.wf.dec,λF G r n=>by (rw[tm aa aa aa] at n;cases n)⟩⟩ h;refine aD ?_;refine aY (l0:=c_ p) ae rfl Er rfl (λa b=>HP a p (b.bo ae) j c aa aa) (λv B=>?_);refine ax ?_;intro k h;exact aN v B h;have P:=bc A
 refine hr ?_;refine aY (l0:=c_ p) ae rfl Er rfl (λa b=>HP a p (b.bo ae) j c aa aa) (λv B=>?_);refine ax ?_;intro k h;exact aN v B h
structure o5 (s:bl) (w:World):Prop where
 hC: ∃t:bl,t.g=s.g∧t.bf=s.bf∧t.y=s.y∧t.an.pred w
theorem o5.of {s:bl} {b w:World} {S:List Nat} {cs:List Chunk} (t:bl) (a:t.g=s.g) (c:t.bf=s.bf) (d:t.y=s.y) (h:af b S cs w) (e:Has cs t.an):o5 s w:=⟨⟨t,a,c,d,h.has e⟩⟩
theorem BL {w:World} {g o:Nat} {xs:List Value} {t:TypeId} {v:Value} (h: (aE g xs t).pred w) (a:xs[o]? = some v):w.cell? ⟨g,o,none⟩=some v:=by
 have b:w.heap[g]? = some (.cells xs.toArray t (0,0)):=h
 rw[cell_of_row w g o xs.toArray t (0,0) b];simpa using a
theorem o5.y {s:bl} {w:World} (h:o5 s w):w.cell? ⟨s.g,0+16,none⟩=some (.int .i64 s.y):=by
 obtain⟨t,a,d,b,c⟩:=h.hC;rw[←a,←b];exact BL c rfl
theorem o5.bf {s:bl} {w:World} (h:o5 s w) (j:Nat) (u:Value) (a: (s.bf.enc)[j]? = some u):w.cell? ((⟨s.g,0+0,none⟩ :Addr).add j)=some u:=by
 obtain⟨t,b,c,i,d⟩:=h.hC;rw[←b,Addr.add_lit];rw[←c] at a
 refine BL d ?_;have e:eT t=t.bf.enc++(eT t).drop 14:=rfl
 have f:=(cY.1 a).1
 rw[e,m8 (by simpa using f)];simpa using a
theorem S8 (w:World) (s:bl) (i:a8 w (aP s)) (b:dT s) (k:d4 s.abs):
 Calls prog 229 [ptr s.g].toArray w (ej s (.tuple #[]) (Hf s.abs) w):=by
 obtain⟨q,l,t,v,z⟩:=k.nums;refine bC func229 ntmps229 i ?_;refine aD ?_;refine eq [0,1,2,3,4,5,6,7,8,9,10] 3 [[(11,false,[12,13,14]),(15,false,[16,17]),(18,true,[])]] (_) mixed ab (λ_ c=>c.drew) (λ_ h=>o5.of s rfl rfl rfl h aQ) ?_;refine ax ?_;refine aI rfl (λe a=>(cy (vs:=s.bf.enc) qU rfl rfl rfl (λm d j u o=>by subst d;exact a.bf j u o) aC)) ?_;refine ah ?_;refine aI rfl (λe a=>(a7 bM rfl rfl (λm d=>by subst d;exact a.y) aC)) ?_;refine ah ?_;refine ao rfl jb rfl (λp f=>jl p s (f.has aQ) (f.has bH) l) ?_;refine bV (λ_=>True) (λ_ h=> .inr (o5.of s rfl rfl rfl h Has.head)) (λ_ h=>aT) ?_;refine aI rfl (λe a=>(ko (out:=[.int .i64 s.bf.at_.di,.int .i64 s.bf.at_.fn,.int .i64 s.bf.at_.an,.int .i64 s.bf.at_.aM,.int .i64 s.bf.at_.fl,.int .i64 s.bf.aG.fv,.int .i64 s.bf.aG.s1,.int .i64 s.bf.aG.s2,.int .i64 s.bf.aG.ln,.int .i64 s.bf.aG.use,.int .i64 s.bf.aG.j1,.bool s.bf.put,.bool s.bf.wrap,.bool s.bf.home,.int .i64 s.y,.int .i64 (min s.x (s.ap.cols - 1))]) zu rfl rfl (by simp[hF,putAt,cZ,Value.cells]) aC)) ?_;refine aS ?_;refine eW uy rfl rfl (by rw[Hg];exact bn.head) rfl (aH.cons rfl (aH.cons rfl (aH.cons rfl (aH.cons rfl (aH.cons rfl (aH.cons rfl (gb rfl rfl rfl rfl rfl rfl rfl rfl rfl rfl))))))) (by exact dY rfl) ?_;refine bV (λ_=>True) (λ_ h=> .inr ⟨.inr (o5.of { s with fW:=s.bf,kC:=s.y,kD:=min s.x (s.ap.cols - 1) } rfl rfl rfl h Has.head),cz⟩) (λ_ h=>aT) ?_;refine aJ ?_;intro A c;exact e6 { s with fW:=s.bf,kC:=s.y,kD:=min s.x (s.ap.cols - 1),has:=true } ⟨rfl,rfl,rfl⟩ ⟨b.r,b.st,b.n⟩ rfl rfl c ae
abbrev tn (s:bl):List Value:=[.int .i64 s.y,.int .i64 s.x,.int .i64 s.bf.at_.di,.int .i64 s.bf.at_.fn,.int .i64 s.bf.at_.an,.int .i64 s.bf.at_.aM,.int .i64 s.bf.at_.fl,.int .i64 s.bf.aG.fv,.int .i64 s.bf.aG.s1,.int .i64 s.bf.aG.s2,.int .i64 s.bf.aG.ln,.int .i64 s.bf.aG.use,.int .i64 s.bf.aG.j1,.bool s.bf.put,.bool s.bf.wrap,.bool s.bf.home,.int .i64 s.top,.int .i64 s.cQ,.bool s.has]
theorem BM (a b c d e f g h i j k l m n o p q r t:Value) (s:bl):cZ [a,b,c,d,e,f,g,h,i,j,k,l,m,n,o,p,q,r,t] 0 (tn s)=tn s:=by
 simp only[cZ,tn,dA,Nat.reduceAdd,qF,mw]
set_option maxHeartbeats 1000000 in
theorem jp (w:World) (s:bl) (c:s.an.pred w):Calls prog 128 [ptr s.g].toArray w (Pure (.agg (tn s).toArray) w):=by
 refine aW func128 ntmps128 ?_;refine ah ?_;intro i k l;refine bI ?_;refine bF [0,1,2,3,4,5,6,7,8,9,10,11,12,13,14,15,16,17,18,19,20,21,22,23,24,25,26,27,28,29,30,31,32,33,34,35,36] 1 [[(37,true,[])]] ?_;refine ah ?_;refine aI rfl (λd a=>(a7 bM rfl rfl (λe b=>by subst b;exact a.bZ c (by (simp;done)) rfl) aC)) ?_;refine ah ?_;refine aI rfl (λd a=>(a7 bM rfl rfl (λe b=>by subst b;exact a.bZ c (by (simp;done)) rfl) aC)) ?_;refine ax ?_;refine aI rfl (λd a=>(cy (vs:=[.int .i64 s.bf.at_.di,.int .i64 s.bf.at_.fn,.int .i64 s.bf.at_.an,.int .i64 s.bf.at_.aM,.int .i64 s.bf.at_.fl]) si rfl rfl rfl (λe b j u f=>by subst b;exact a.jF (sz:=5) (o:=0) (xs:=eT s) c av rfl j u f) aC)) ?_;refine aS ?_;refine aI rfl (λd a=>(cy (vs:=s.bf.aG.enc) lN rfl rfl rfl (λe b j u f=>by subst b;exact a.jF (sz:=6) (o:=5) (xs:=eT s) c av rfl j u f) aC)) ?_;refine aS ?_;refine aI rfl (λd a=>(cy (vs:=[.bool s.bf.put,.bool s.bf.wrap,.bool s.bf.home]) DW rfl rfl rfl (λe b j u f=>by subst b;exact a.jF (sz:=3) (o:=11) (xs:=eT s) c av rfl j u f) aC)) ?_;refine ah ?_;refine aI rfl (λd a=>(a7 bM rfl rfl (λe b=>by subst b;exact a.bZ c (by (simp;done)) rfl) aC)) ?_;refine ah ?_;refine aI rfl (λd a=>(a7 bM rfl rfl (λe b=>by subst b;exact a.bZ c (by (simp;done)) rfl) aC)) ?_;refine ah ?_;refine aI rfl (λd a=>(a7 pE rfl rfl (λe b=>by subst b;exact a.bZ c (by (simp;done)) rfl) aC)) ?_;refine aI rfl (λd a=>(ko (out:=tn s) L2 rfl rfl (by simp[hF,putAt,cZ,Value.cells,gE.enc,fV.enc]) aC)) ?_;refine aq ?_;refine eW zy rfl rfl (by rw[BM];exact bn.head) rfl (aH.cons rfl (aH.cons rfl (aH.cons rfl (aH.cons rfl (aH.cons rfl (aH.cons rfl (aH.cons rfl (aH.cons rfl (aH.cons rfl (gb rfl rfl rfl rfl rfl rfl rfl rfl rfl rfl)))))))))) (by exact dY rfl) ?_;refine al ?_;intro m h;exact⟨rfl,h.ext⟩
structure gi (k:Nat) (s z:bl):Prop where
 g:z.g=s.g
 ap:z.ap.g=s.ap.g
 st:z.st.g=s.st.g
 wf:dT z
 kept:cR k s.abs z.abs
theorem gi.refl {s:bl} (h:dT s):gi 0 s s:=⟨rfl,rfl,rfl,h,cR.refl _⟩
theorem gi.trans {a b:Nat} {s z u:bl} (h:gi a s z) (k:gi b z u):gi (a+b) s u:=⟨k.g.trans h.g,k.ap.trans h.ap,k.st.trans h.st,k.wf,h.kept.trans k.kept⟩
theorem gi.mono {a b:Nat} {s z:bl} (h:gi a s z) (c:a≤b):gi b s z:=⟨h.g,h.ap,h.st,h.wf,h.kept.mono c⟩
theorem hU.gX {s z:bl} {q:bd} {k:Nat} (h:hU s q z) (a:cR k s.abs q):gi k s z:=⟨h.g,h.ap,h.st,h.wf,h.abs▸a⟩
theorem gi.fits {k:Nat} {s z:bl} (h:gi k s z) (a:d4 s.abs):d4 z.abs∧z.ap.be.l.length≤s.ap.be.l.length+k:=⟨h.kept.wf a,h.kept.be⟩
def d8 (k:Nat) (s:bl) (v:Value) (w:World):Ending→World→Prop:=aO (λ_:bl=>v) (aP s) aP (gi k s) w
theorem HS {s:bl} {k:Nat} {i:bq} {q:b4} (b:dT s) (hi:i.g=s.ap.g∧cU i.r∧i.abs=q) (c:Kept k s.ap.abs q):gi k s { s with ap:=i }:=by
 refine⟨rfl,hi.1,rfl,⟨hi.2.1,b.st,?_⟩,?_⟩;have a:=c.cols
 rw[←hi.2.2] at a
 have d:i.cols=s.ap.cols:=a
 rw[b.n,←d];have a: ({ s with ap:=i }:bl).abs= { s.abs with bE:=q }:=by simp only[bl.abs,hi.2.2]
 rw[a];exact hV s.abs (f:=λ_=>q) c
theorem S9 (w:World) (s:bl) (E:a8 w (aP s)) (F:dT s) (o:d4 s.abs):
 Calls prog 170 [ptr s.g].toArray w (d8 0 s (.tuple #[]) w):=by
 refine bC func170 ntmps170 E ?_;refine bI ?_;refine cE (λb a=>vd b s a F o.bE) (λz k=>?_);refine aS ?_;have p:=k.gX (Ha s.abs)
 obtain⟨v,c8⟩:=p.fits o;obtain⟨Q,R,S,y,T⟩:=v.nums;rw[←k.g];refine aq ?_;refine ao rfl nj rfl (λb a=>nI b z z.ap rfl (a.has aQ) (a.has bH)) ?_;refine aS ?_;refine b1 (ι:=Nat × bl) (λi=>[(0,ptr z.g),(9,.int .i64 (z.ap.s.l.length:Int)),(10,.int .i64 (i.1 :Int))]) (λi=>af w (aA (aP s)) (aP i.2)) (λi=>i.1≤z.ap.s.l.length∧gi 0 z i.2) (λi=>z.ap.s.l.length - i.1) ?_ ?_;exact λw' n=>⟨(0,z),⟨bP _,gi.refl k.wf⟩,(ef rfl rfl rfl),n.aw ae⟩
 rintro⟨i,q⟩ ⟨hi,d⟩;dsimp only at hi d ⊢
 obtain⟨f,U⟩:=d.fits v;obtain⟨V,W,X,Y,Z⟩:=f.nums;rw[←d.g];refine al ?_;refine aj (λG=>?_) (λG=>?_);refine bp ?_;refine bF [0,1,2,3,4,5,7] 2 [[(6,false,[]),(8,true,[])]] ?_;refine aJ ?_;refine ao rfl jB rfl (λb a=>j4 b q q.ap rfl (a.has aQ) (a.has bH)) ?_;refine ah ?_;refine aY (l0:=bD q.ap) ae rfl uE rfl (λb a=>u9 b q.ap (a.bo ae) d.wf.r f.bE (i:Int) 0 q.ap.cols 0 0 aa) (λH A=>?_);refine ax ?_;have j:=HS d.wf A (oP q.ap.abs _ _ _ _ _)
 have B:=s4 (t:=q) A.1
 generalize Za: ({ q with ap:=H }:bl)=c at j B
 refine cL (H':=af w (aA (aP s)) (aP c)) ?_ (Sub.refl _) (λx y=>by rw[B];exact y.aw ae);obtain⟨I,Zb⟩:=j.fits f;obtain⟨Zc,Zd,Ze,Zf,Zg⟩:=I.nums;rw[←j.g];refine aq ?_;refine ao rfl jB rfl (λb a=>j4 b c c.ap rfl (a.has aQ) (a.has bH)) ?_;refine aS ?_;refine b1 (ι:=Nat × bl) (λm=>[(0,ptr c.g),(2,.int .i64 (i:Int)),(9,.int .i64 (z.ap.s.l.length:Int)),(10,.int .i64 (i:Int)),(23,.int .i64 c.ap.cols),(24,.int .i64 (m.1 :Int))]) (λm=>af w (aA (aP s)) (aP m.2)) (λm=>m.1≤c.ap.cols.toNat∧gi 0 q m.2) (λm=>c.ap.cols.toNat - m.1) ?_ ?_;exact λw' n=>⟨(0,c),⟨bP _,j⟩,(gC rfl rfl rfl rfl rfl rfl),n⟩
 rintro⟨m,u⟩ ⟨J,e⟩;dsimp only at J e ⊢
 obtain⟨C,Zh⟩:=e.fits f;obtain⟨Zi,Zj,Zk,Zl,Zm⟩:=C.nums;rw[j.g,←e.g];refine al ?_;refine aj (λK=>?_) (λK=>?_);refine e4 ?_;refine cE (λb a=>Gf b u.ap a e.wf.r C.bE (i:Int) (m:Int) 69 ⟨0,0,0,0,0⟩) (λL D=>?_);refine aD ?_;have M:=HS e.wf D (u6 u.ap.abs _ _ _ _)
 exact bg (m+1,{ u with ap:=L }) ⟨by show m+1≤_;omega,(e.trans M).mono aa⟩ (by show c.ap.cols.toNat - (m+1)<c.ap.cols.toNat - m;omega) (gC rfl rfl rfl rfl rfl rfl) (λ_ h=>by rw[s4 D.1];exact h.aw ae);refine aR ?_;exact bg (i+1,u) ⟨by show i+1≤_;omega,(d.trans e).mono aa⟩ (by show z.ap.s.l.length - (i+1)<z.ap.s.l.length - i;omega) (ef rfl rfl rfl) (λ_ h=>h.aw ae);refine aD ?_;refine cE (λb a=>xV b q a d.wf f.bE 0 0) (λN O=>?_);refine aq ?_;intro Zn P;exact aN N (((p.trans d).trans (O.gX (xU _ _ _))).mono aa) P
end Go.Proofs.YtoghoobfpcadbaaGreatDoor.Mq
