/- part 22 of the proof -/
import Derived.Test.YtkeokgcdnfjaaaaGreatDoorQ18
import Derived.Test.YtkeokgcdnfjaaaaGreatDoorQ21
namespace Go.Proofs.YtkeokgcdnfjaaaaGreatDoor.Mq
open Go Go.RowKit Go.Proofs Tryz
section
abbrev tb (l:List dR):List Chunk:=l.map (λe=>e.nums.aF)
section
variable {b:World} {S:List Nat} {cs:List Chunk} {w:World}
theorem af.BB {l m:List dR} (h:af b S (aT (tb l)::aT (tb m)::cs) w):af b S (aT (tb (l++m))::cs) w:=by
 unfold tb;rw[gb];exact h.Bx
theorem af.vg {l:List dR} {e:dR} (h:af b S (aT (tb l)::cs) w) (a:e.nums=qc):af b S (aT (tb (l++[e]))::cs) w:=
 ((h.Bw [e] (by simpa using a)).perm (List.Perm.swap _ _ _)).BB
end
def mQ (p:cb):List Int→cb→List gU→Prop
 | [],q,cH=>q.h=p.h∧q.state=p.state∧cH=[]
 | [r],q,cH=>0≤r→r<127→q.h=p.h∧q.state=p.state∧cH=[if r<32 then ⟨1,0,r,0,[],[],false⟩ else ⟨0,r,0,0,[],[],false⟩]
 | _::_::_,_,_=>True
theorem mQ.step {p q:cb} {L:List Int} {k:Nat} {r:Int} {cH:List gU} (c:L[k]? = some r) (h:k=0→mQ p [r] q cH):mQ p (L.take (k+1)) q cH:=by
 match L,k,c with
 | a::L,0,c=>
  simp only[qu,dz] at c
  subst c;exact h rfl
 | [_],k+1,c=>simp at c
 | a::b::L,k+1,c=>exact aU
structure ll (p:cb) (L:List Int) (i:Nat × cb × gd):Prop where
 k:i.1≤L.length
 g:i.2.1.g=p.g
 wf:fD i.2.1
 most:i.2.1.most=p.most
 dec:i.2.1.dec=p.dec
 len:i.2.2.l.length≤i.1
 ok: ∀e∈i.2.2.l,lW e
 R:mQ p (L.take i.1) i.2.1 (i.2.2.l.map dR.abs)
theorem ll.zero {p:cb} {L:List Int} (a:fD p):ll p L (0,p,⟨none,0,[]⟩):=⟨bN _,rfl,a,rfl,rfl,by simp,by simp,by simp[mQ]⟩
theorem BC {kind r byte:Int} (a:0≤byte∧byte≤255):lW (eB kind r byte 0 [] [] false):=⟨Bv,by simp[eB],by simp[eB],a,by dsimp only[eB];omega⟩
theorem ll.snoc {p:cb} {L:List Int} {k:Nat} {q:cb} {o:gd} {A:Option Addr} {c:Nat} {r kind r' byte:Int} (h:ll p L (k,q,o)) (a:L[k]? = some r) (i:0≤byte∧byte≤255)
 (j:0≤r→r<127→(⟨kind,r',byte,0,[],[],false⟩ :gU)=if r<32 then ⟨1,0,r,0,[],[],false⟩ else ⟨0,r,0,0,[],[],false⟩):ll p L (k+1,q,⟨A,c,o.l++[eB kind r' byte 0 [] [] false]⟩):=by
 have m:=(cU.1 a).1
 refine⟨m,h.g,h.wf,h.most,h.dec,?_,?_,?_⟩;have:=h.len;simp at this ⊢;omega
 intro e he;rcases cX.1 he with he | he
 exact h.ok e he;simp only[eL] at he;subst he;exact BC i
 refine mQ.step a (λn=>?_);subst n;obtain⟨b,d,f⟩:=h.R;dsimp only at b d f ⊢
 intro s t;refine⟨b,d,?_⟩;rw[gb,f,←j s t];rfl
theorem ll.same {p:cb} {L:List Int} {k:Nat} {q:cb} {o:gd} {r:Int} (h:ll p L (k,q,o)) (a:L[k]? = some r) (b:127≤r):ll p L (k+1,q,o):=
 ⟨(cU.1 a).1,h.g,h.wf,h.most,h.dec,Nat.le_succ_of_le h.len,h.ok,mQ.step a (λ_ c d=>by omega)⟩
theorem ll.cat {p:cb} {L:List Int} {k:Nat} {q:cb} {o:gd} {A:Option Addr} {c:Nat} {r:Int} {R:cb→List gU→Prop} {z:cb × gd} (h:ll p L (k,q,o)) (b:L[k]? = some r) (f:127≤r) (a:ta q 1 R z) (ak:z.1.dec=q.dec):ll p L (k+1,z.1,⟨A,c,o.l++z.2.l⟩):=by
 refine⟨(cU.1 b).1,a.g.trans h.g,a.wf,a.most.trans h.most,ak.trans h.dec,?_,?_,mQ.step b (λ_ i j=>by omega)⟩;have d:=h.len
 have m:=a.len
 simp at d ⊢
 omega
 intro e he;rcases cX.1 he with he | he
 exact h.ok e he;exact a.ok e he
def SL (p:cb) (a:Option Addr × Nat × List Int) (w:World):Ending→World→Prop:=
 aP (λi:cb × gd=>i.2.val) (kD a::c7 p) (λi=>s_ i.1 i.2) (ta p a.2.2.length (λq cH=>q.dec=p.dec∧mQ p a.2.2 q cH)) w
abbrev HH (a:Option Addr × Nat × List Int) (i:Nat × cb × gd):List Chunk:=[i.2.1.an,i.2.1.head.au,i.2.1.inter.au,i.2.1.text.au,kD a,i.2.2.au,i.2.2.cc]
theorem vh (w:World) (p:cb) (a:Option Addr × Nat × List Int) (u:bb w (kD a::c7 p)) (v:fD p) (y:a.2.2.length≤2):
 Calls prog 102 [gi p.g,Bq a].toArray w (SL p a w):=by
 obtain⟨A,c,L⟩:=a;dsimp only at y
 refine calls (n:=47) func102 rfl ntmps102 rfl ?_;refine cG (H':=af w (aB (kD (A,c,L)::c7 p)) (HH (A,c,L) (0,p,⟨none,0,[]⟩))) ?_ (Sub.refl _) (λx B=>(((u.start x B).eO 170 eP).Bw [] av).aw (aA.cons (by exact oy) (aA.cons (by exact oy) (aA.cons (by exact oy) (aA.cons (by exact oy) (aA.cons (by exact pO) (aA.cons (by exact cv) (aA.cons (by exact bi) aA.nil))))))));refine eG ?_;refine b3 (ι:=Nat × cb × gd) (λi=>[(0,gi p.g),(5,i.2.2.val),(8,.slice A L.length c),(9,.int .i64 (L.length:Int)),(10,.int .i64 (i.1 :Int))]) (λi=>af w (aB (kD (A,c,L)::c7 p)) (HH (A,c,L) i)) (ll p L) (λi=>L.length - i.1) ?_ ?_;exact λw' C=>⟨(0,p,⟨none,0,[]⟩),ll.zero v,(ec rfl rfl rfl rfl rfl),C⟩
 rintro⟨k,q,o⟩ hi;have D:=hi.k
 have F:=hi.len
 have j:=hi.wf
 dsimp only at D F j ⊢
 rw[←hi.g];dsimp only;refine al ?_;refine aj (λG=>?_) (λG=>?_);obtain⟨r,b⟩ : ∃r,L[k]? = some r:=⟨L[k]'aa,bE _⟩;refine al ?_;refine iL (E:=kC) (by exact iz) oq rfl rfl rfl a7 aa (λU H=>?_);refine ba jt rfl rfl (λV I=>I.Ht (E:=kC) (by exact iz) H bz _ rfl) ?_;refine bo ?_;refine aj (λd=>?_) (λd=>?_);refine ah ?_;refine dl rfl rfl underlying21 underlying5 rfl ?_;refine aq ?_;refine dx (E:=eP) ⟨_,_,_,_,⟨_,_,_,0,0,[]⟩,_,_,_⟩ gM rfl rfl rfl rfl rfl (λW X Y=>?_);refine er (E:=eP) gM rfl rfl rfl (by exact bi) (λ_ _=>(by exact ss)) b4 b4 (λZ Za=>?_);refine aJ ?_;exact bg (k+1,q,⟨_,_,o.l++[eB 1 0 (IntKind.u8.wrap r) 0 [] [] false]⟩) (hi.snoc b (Hz _) (λs t=>by rw[ax d,nh aa aa])) (by show L.length - (k+1)<L.length - k;omega) (ec rfl rfl rfl rfl rfl) (λ_ h=>(af.vg (l:=o.l) (h.aw (l:=[o.cc,q.an,q.head.au,q.inter.au,q.text.au,kD (A,c,L),au 170 eP _ _ (o.l++[eB 1 0 (IntKind.u8.wrap r) 0 [] [] false])]) (aA.cons (by exact Ae) (aA.cons (by exact bi) (aA.cons (by exact bi) (aA.cons (by exact bi) (aA.cons (by exact bi) (aA.cons (by exact bi) (aA.cons (by exact bi) aA.nil)))))))) rfl).aw (aA.cons (by exact cv) (aA.cons (by exact cv) (aA.cons (by exact cv) (aA.cons (by exact cv) (aA.cons (by exact cv) (aA.cons (by exact cv) (aA.cons (by exact bi) aA.nil))))))));refine aC ?_;refine aj (λaH=>?_) (λaH=>?_);refine aK ?_;exact bg (k+1,q,o) (hi.same b aa) (by show L.length - (k+1)<L.length - k;omega) bO (λ_ h=>h.aw (aA.cons (by exact bi) (aA.cons (by exact bi) (aA.cons (by exact bi) (aA.cons (by exact bi) (aA.cons (by exact bi) (aA.cons (by exact bi) (aA.cons (by exact bi) aA.nil))))))));refine ay ?_;refine aV 34 rfl (λe=>?_) (λe=>?_);have J:=aY e
 refine aK ?_;refine aj (λK=>?_) (λK=>?_);refine aS ?_;refine dl rfl rfl underlying21 underlying5 rfl ?_;refine gI rfl rfl rfl rfl ?_;refine aZ (l0:=c7 q) (aA.cons (by exact bi) (aA.cons (by exact bi) (aA.cons (by exact bi) (aA.cons (by exact bi) aA.nil)))) rfl En rfl (λM N=>HE M q (N.bp (aA.cons (by exact bi) (aA.cons (by exact bi) (aA.cons (by exact bi) (aA.cons (by exact bi) aA.nil))))) j _ (Hz _)) (λz f=>?_);have Zb:=f.len
 refine er (E:=eP) gM rfl rfl rfl (by exact nk) (λ_ _=>(by exact uA)) b4 aa (λZc Zd=>?_);refine aJ ?_;exact bg (k+1,z.1,⟨_,_,o.l++z.2.l⟩) (hi.cat b aa f f.R.1) (by show L.length - (k+1)<L.length - k;omega) (ec rfl rfl rfl rfl rfl) (λ_ h=>(af.BB (l:=o.l) (m:=z.2.l) (h.aw (l:=[o.cc,z.2.cc,z.1.an,z.1.head.au,z.1.inter.au,z.1.text.au,kD (A,c,L),au 170 eP _ _ (o.l++z.2.l)]) (aA.cons (by exact Af) (aA.cons (by exact nk) (aA.cons (by exact bi) (aA.cons (by exact bi) (aA.cons (by exact bi) (aA.cons (by exact bi) (aA.cons (by exact bi) (aA.cons (by exact bi) aA.nil)))))))))).aw (aA.cons (by exact cv) (aA.cons (by exact cv) (aA.cons (by exact cv) (aA.cons (by exact cv) (aA.cons (by exact cv) (aA.cons (by exact cv) (aA.cons (by exact bi) aA.nil))))))));refine aS ?_;refine dx (E:=eP) ⟨_,_,_,_,⟨_,_,_,0,0,[]⟩,_,_,_⟩ gM rfl rfl rfl rfl rfl (λO P Q=>?_);refine er (E:=eP) gM rfl rfl rfl (by exact bi) (λ_ _=>(by exact ss)) b4 b4 (λZe Zf=>?_);refine aJ ?_;exact bg (k+1,q,⟨_,_,o.l++[eB 0 r 0 0 [] [] false]⟩) (hi.snoc b a1 (λs t=>by rw[ag d])) (by show L.length - (k+1)<L.length - k;omega) (ec rfl rfl rfl rfl rfl) (λ_ h=>(af.vg (l:=o.l) (h.aw (l:=[o.cc,q.an,q.head.au,q.inter.au,q.text.au,kD (A,c,L),au 170 eP _ _ (o.l++[eB 0 r 0 0 [] [] false])]) (aA.cons (by exact Ae) (aA.cons (by exact bi) (aA.cons (by exact bi) (aA.cons (by exact bi) (aA.cons (by exact bi) (aA.cons (by exact bi) (aA.cons (by exact bi) aA.nil)))))))) rfl).aw (aA.cons (by exact cv) (aA.cons (by exact cv) (aA.cons (by exact cv) (aA.cons (by exact cv) (aA.cons (by exact cv) (aA.cons (by exact cv) (aA.cons (by exact bi) aA.nil))))))));have J:=a8 e
 refine bo ?_;refine dx (E:=eP) ⟨_,_,_,_,⟨_,_,_,0,0,[]⟩,_,_,_⟩ gM rfl rfl rfl rfl rfl (λO P Q=>?_);refine er (E:=eP) gM rfl rfl rfl (by exact bi) (λ_ _=>(by exact ss)) b4 b4 (λZg Zh=>?_);refine aJ ?_;exact bg (k+1,q,⟨_,_,o.l++[eB 0 r 0 0 [] [] false]⟩) (hi.snoc b a1 (λs t=>by rw[ag d])) (by show L.length - (k+1)<L.length - k;omega) (ec rfl rfl rfl rfl rfl) (λ_ h=>(af.vg (l:=o.l) (h.aw (l:=[o.cc,q.an,q.head.au,q.inter.au,q.text.au,kD (A,c,L),au 170 eP _ _ (o.l++[eB 0 r 0 0 [] [] false])]) (aA.cons (by exact Ae) (aA.cons (by exact bi) (aA.cons (by exact bi) (aA.cons (by exact bi) (aA.cons (by exact bi) (aA.cons (by exact bi) (aA.cons (by exact bi) aA.nil)))))))) rfl).aw (aA.cons (by exact cv) (aA.cons (by exact cv) (aA.cons (by exact cv) (aA.cons (by exact cv) (aA.cons (by exact cv) (aA.cons (by exact cv) (aA.cons (by exact bi) aA.nil))))))));refine bH ?_;intro Zi S;have T:k=L.length:=by omega
 subst T;exact aP.bP (q,o) ⟨hi.g,hi.wf,hi.most,hi.len,hi.ok,hi.dec,by have:=hi.R;rwa [qA] at this⟩ rfl (S.aw (aA.cons (by exact bi) (aA.cons (by exact bi) (aA.cons (by exact bi) (aA.cons (by exact bi) (aA.cons (by exact cv) (aA.cons (by exact cv) aA.nil)))))))
end
theorem SM {h:fQ} {st most:Int} {c:UInt8} (a:127≤(c.toNat:Int)):jk h st most c=none:=by
 unfold jk;rw[ag (show ¬(c.toNat:Int)=27 by omega),ax (show (c.toNat:Int)=24∨(c.toNat:Int)=26∨127≤(c.toNat:Int) by omega),ag (show ¬((c.toNat:Int)=93∧h.inter.length=0∧h.j3=false) by omega),ag (show ¬(c.toNat:Int)=7 by omega),ag (show ¬(32≤(c.toNat:Int)∧(c.toNat:Int)<127∧(h.text.length:Int)<most) by omega)];simp
theorem ik.none {p q:cb} {c:UInt8} {cH:List gU} (ak:mP q.dec) (h:jk p.h p.state p.most c=none):ik p c q cH:=⟨ak,λ_ _ r a=>by rw[h] at a;cases a⟩
theorem x2 {h:fQ} {most:Int} {c:UInt8} {r: (fQ × Int) × List gU} (e:jk h 1 most c=some r): (c.toNat:Int)=93∧h.inter.length=0∧h.j3=false∧r=((nH,4),[]):=by
 unfold jk at e
 rw[ag a1,ax rfl] at e
 split at e
 rename_i a;exact⟨a.1,a.2.1,a.2.2,by simpa using e.symm⟩;cases e
theorem tc {h:fQ} {st most:Int} {c:UInt8} (a:st≠0) (b:st≠1) (d:st≠4):jk h st most c=none:=by
 unfold jk;rw[ag a,ag b,ag d]
theorem ik.st {p q:cb} {c:UInt8} {cH:List gU} (ak:mP q.dec) (d:p.state≠0) (e:p.state≠4) (f: (c.toNat:Int)≠93):ik p c q cH:=by
 refine⟨ak,λ_ _ r a=>?_⟩;by_cases b:p.state=1
 rw[b] at a;exact absurd (x2 a).1 f
 rw[tc d b e] at a;cases a
theorem vi {p:cb} {d:nI} (h:fD p) (ak:mP d):fD (hl p d):=⟨h.head,h.inter,h.text,h.most,ak,h.ak⟩
theorem HI (w:World) (p:cb) (F:bb w (c7 p)) (d:fD p) (c:UInt8) (j:p.state≠4) (k:p.state≠0):
 Calls prog 108 [gi p.g,.int .u8 (c.toNat:Int)].toArray w (dy p 2 (ik p c) w):=by
 refine bI func108 ntmps108 F ?_;refine b5 ?_;refine aj (λG=>?_) (λG=>?_);refine ah ?_;refine aZ (l0:=c7 p) ae rfl hB rfl (λe f=>hP e p (f.bp ae) d _) (λz m=>?_);refine ah ?_;have H:=m.wf.dec
 rw[←m.g];refine al ?_;refine cI (λe f=>Hy e z f H c) (λx q=>?_);refine cI (λe f=>vh e (hl z x.1) x.2 f (vi m.wf q.1) q.2.1) (λy l=>?_);refine aC ?_;intro i a;exact aN y ⟨l.g.trans m.g,l.wf,l.most.trans m.most,fp l.len q.2.1,l.ok,ik.none l.wf.dec (SM aa)⟩ a;refine ay ?_;refine aV 20 rfl (λaH=>?_) (λaH=>?_);have I:=aY aH
 refine nl ?_;intro i a;exact dy.n rfl d rfl (ik.st d.dec k j aa) a ae;have I:=a8 aH
 refine al ?_;refine aV 23 rfl (λs=>?_) (λs=>?_);have J:=aY s
 refine dB ?_;refine aj (λK=>?_) (λK=>?_);refine aJ ?_;intro i a;exact dy.n rfl d rfl (ik.st d.dec k j aa) a ae;refine aC ?_;refine aj (λL=>?_) (λL=>?_);refine aS ?_;refine dx (E:=eP) ⟨_,_,_,_,⟨_,_,_,0,0,[]⟩,_,_,_⟩ gM rfl rfl rfl rfl rfl (λM N O=>?_);refine aC ?_;intro i a;exact dy.z (es:=[eB 1 0 c.toNat 0 [] [] false]) rfl d rfl (by simpa using ⟨rfl,by simp[eB],by simp[eB],qb c,by dsimp only[eB];omega⟩) av (ik.st d.dec k j aa) a ae;refine aR ?_;refine aj (λP=>?_) (λP=>?_);refine aS ?_;refine cI (λe f=>HF e p f d c) (λu b=>?_);refine aC ?_;intro i a;exact aN u ⟨b.g,b.wf,b.most,by have:=b.len;omega,b.ok,⟨b.wf.dec,λ_ _ r o=>by rw[show p.state=1 by assumption] at o;obtain⟨t,A,B,rfl⟩:=x2 o;obtain⟨C,D,hJ⟩:=b.R.2 A B t;exact⟨b.R.1,C,D,hJ⟩⟩⟩ a;refine aC ?_;refine cI (λe f=>HG e p f d c) (λv h=>?_);refine ay ?_;intro i a;exact aN v ⟨h.g,h.wf,h.most,by have:=h.len;omega,h.ok,ik.none h.wf.dec (tc k bz j)⟩ a;have J:=a8 s
 refine eG ?_;refine aj (λQ=>?_) (λQ=>?_);refine aS ?_;refine dx (E:=eP) ⟨_,_,_,_,⟨_,_,_,0,0,[]⟩,_,_,_⟩ gM rfl rfl rfl rfl rfl (λM N O=>?_);refine aC ?_;intro i a;exact dy.z (es:=[eB 1 0 c.toNat 0 [] [] false]) rfl d rfl (by simpa using ⟨rfl,by simp[eB],by simp[eB],qb c,by dsimp only[eB];omega⟩) av (ik.st d.dec k j aa) a ae;refine aR ?_;refine aj (λS=>?_) (λS=>?_);refine aS ?_;refine cI (λe f=>HF e p f d c) (λu b=>?_);refine aC ?_;intro i a;exact aN u ⟨b.g,b.wf,b.most,by have:=b.len;omega,b.ok,⟨b.wf.dec,λ_ _ r o=>by rw[show p.state=1 by assumption] at o;obtain⟨t,A,B,rfl⟩:=x2 o;obtain⟨C,D,hJ⟩:=b.R.2 A B t;exact⟨b.R.1,C,D,hJ⟩⟩⟩ a;refine aC ?_;refine cI (λe f=>HG e p f d c) (λv h=>?_);refine ay ?_;intro i a;exact aN v ⟨h.g,h.wf,h.most,by have:=h.len;omega,h.ok,ik.none h.wf.dec (tc k bz j)⟩ a
theorem HJ {h:fQ} {most:Int} {c:UInt8} {r: (fQ × Int) × List gU} (e:jk h 0 most c=some r):
 ((c.toNat:Int)=27∧r=((nH,1),[]))∨((c.toNat:Int)≠27∧(c.toNat:Int)≠24∧(c.toNat:Int)≠26∧(c.toNat:Int)<127∧r=((h,0),[if (c.toNat:Int)<32 then ⟨1,0,c.toNat,0,[],[],false⟩ else ⟨0,c.toNat,0,0,[],[],false⟩])):=by
 unfold jk at e
 rw[ax rfl] at e
 split at e
 exact .inl ⟨bz,by simpa using e.symm⟩;split at e
 cases e
 rename_i b d;split at e
 rename_i a;exact .inr ⟨b,aa,aa,aa,by rw[ax a];simpa using e.symm⟩;rename_i a;exact .inr ⟨b,aa,aa,aa,by rw[ag a];simpa using e.symm⟩
theorem HK {h:fQ} {st most:Int} {c:UInt8} (a: (c.toNat:Int)=24∨(c.toNat:Int)=26):jk h st most c=none:=by
 unfold jk;rw[ag (show ¬(c.toNat:Int)=27 by omega),ax (show (c.toNat:Int)=24∨(c.toNat:Int)=26∨127≤(c.toNat:Int) by omega),ag (show ¬((c.toNat:Int)=93∧h.inter.length=0∧h.j3=false) by omega),ag (show ¬(c.toNat:Int)=7 by omega),ag (show ¬(32≤(c.toNat:Int)∧(c.toNat:Int)<127∧(h.text.length:Int)<most) by omega)];simp
theorem SN {h:fQ} {st most:Int} {c:UInt8} {r: (fQ × Int) × List gU} (f: (c.toNat:Int)=27) (e:jk h st most c=some r):st=0:=by
 apply Classical.byContradiction
 intro d;by_cases a:st=1
 subst a;have:=(x2 e).1
 omega
 by_cases b:st=4
 subst b;rcases oZ e with ⟨h,_⟩ | ⟨_,h,_⟩ <;> omega
 rw[tc d a b] at e;cases e
theorem BD {l m:List dR} (h: ∀e∈l,lW e) (k: ∀e∈m,lW e): ∀e∈l++m,lW e:=λe he=>by
 rcases cX.1 he with he | he
 exact h e he;exact k e he
theorem SO {p z:cb} {c:UInt8} {x:nI × Option Addr × Nat × List Int} {y u:cb × gd} (d: (c.toNat:Int)=27)
 (g:mP x.1∧x.2.2.2.length≤1∧x.1.jj≤p.dec.jj∧(p.dec.lV=0→x.1=p.dec∧x.2.2.2=[]))
 (i:ta (hl p x.1) x.2.2.2.length (λq cH=>q.dec=(hl p x.1).dec∧mQ (hl p x.1) x.2.2.2 q cH) y)
 (j:ta y.1 1 (λq cH=>q=y.1∧(y.1.state=4→cH=[⟨4,0,0,0,[],y.1.text.l,y.1.cut⟩])∧(y.1.state≠4→y.1.state≠3→cH=[])) u)
 (a:Pa u.1 nH 1 z):ik p c z ((y.2.l++u.2.l).map dR.abs):=by
 refine⟨a.wf.dec,λA k r b=>?_⟩;have e:=SN d b
 rw[e] at b
 rcases HJ b with ⟨_,rfl⟩ | ⟨h,_⟩
 obtain⟨m,n⟩:=g.2.2.2 k;obtain⟨o,f⟩:=i.R;rw[n] at f
 obtain⟨B,s,t⟩:=f;obtain⟨v,C,w⟩:=j.R;have D:y.1.state=0:=s.trans e
 refine⟨?_,a.h,a.st,?_⟩;rw[a.dec,v,o,m];rw[gb,t,w aa aa];rfl
 exact absurd d h
theorem SP {p:cb} {c:UInt8} {x:nI × Option Addr × Nat × List Int} {y:cb × gd} (a:p.state=0) (f: (c.toNat:Int)≠27) (g:Hw 2 p.dec c x)
 (b:ta (hl p x.1) x.2.2.2.length (λq cH=>q.dec=(hl p x.1).dec∧mQ (hl p x.1) x.2.2.2 q cH) y):ik p c y.1 (y.2.l.map dR.abs):=by
 refine⟨b.wf.dec,λi t r d=>?_⟩;rw[a] at d
 rcases HJ d with ⟨h,_⟩ | ⟨_,_,_,u,rfl⟩
 exact absurd h f;obtain⟨j,k⟩:=g.2.2 i aa;obtain⟨m,e⟩:=b.R;rw[k] at e
 obtain⟨n,o,s⟩:=e aa aa;exact⟨by rw[m,j],n,o.trans a,s⟩
theorem SQ (w:World) (p:cb) (H:bb w (c7 p)) (j:fD p) (c:UInt8):
 Calls prog 69 [gi p.g,.int .u8 (c.toNat:Int)].toArray w (dy p 2 (ik p c) w):=by
 have o:=j.dec
 refine bI func69 ntmps69 H ?_;refine w7 ?_;refine aj (λq=>?_) (λq=>?_);have C:=q
 refine ar ?_;refine ev rfl ((b1 C)) ?_;refine al ?_;refine cI (λa b=>Bs a p b o) (λx f=>?_);refine aZ (l0:=kD x.2::c7 (hl p x.1)) ae rfl zA rfl (λa b=>vh a (hl p x.1) x.2 (b.bp ae) (vi j f.1) (by have:=f.2.1;omega)) (λy e=>?_);refine aS ?_;rw[show gi p.g=gi y.1.g by rw[e.g]];refine ar ?_;refine aZ (l0:=c7 y.1) ae rfl hB rfl (λa b=>hP a y.1 (b.bp ae) e.wf _) (λz i=>?_);refine aC ?_;refine dx (E:=eP) ⟨_,_,_,_,⟨_,_,_,0,0,[]⟩,_,_,_⟩ gM rfl rfl rfl rfl rfl (λI J K=>?_);have D:=fp e.len f.2.1
 refine er (E:=eP) gM rfl rfl rfl bi (λ_ _=>jb) b4 b4 (λS T=>?_);refine aC ?_;intro k h
 (refine aP.bP (z,⟨_,_,y.2.l++[eB 1 0 c.toNat 0 [] [] false]⟩) ?_ rfl ((af.vg (l:=y.2.l) (h.aw (l:=[y.2.cc,z.an,z.head.au,z.inter.au,z.text.au,au 170 eP _ _ (y.2.l++[eB 1 0 c.toNat 0 [] [] false])]) ae) rfl).aw ae);exact⟨i.g.trans e.g,i.wf,i.most.trans e.most,by simp;omega,BD e.ok (by simpa using BC (qb c)),ik.none i.wf.dec (HK aa)⟩)
 have C:=q
 refine ay ?_;refine aj (λaH=>?_) (λaH=>?_);refine al ?_;refine cI (λa b=>Bs a p b o) (λx f=>?_);refine aZ (l0:=kD x.2::c7 (hl p x.1)) ae rfl zA rfl (λa b=>vh a (hl p x.1) x.2 (b.bp ae) (vi j f.1) (by have:=f.2.1;omega)) (λy e=>?_);refine aS ?_;rw[show gi p.g=gi y.1.g by rw[e.g]];refine ar ?_;refine aZ (l0:=c7 y.1) ae rfl hB rfl (λa b=>hP a y.1 (b.bp ae) e.wf _) (λz i=>?_);refine aC ?_;refine dx (E:=eP) ⟨_,_,_,_,⟨_,_,_,0,0,[]⟩,_,_,_⟩ gM rfl rfl rfl rfl rfl (λI J K=>?_);have D:=fp e.len f.2.1
 refine er (E:=eP) gM rfl rfl rfl bi (λ_ _=>jb) b4 b4 (λU V=>?_);refine aC ?_;intro k h
 (refine aP.bP (z,⟨_,_,y.2.l++[eB 1 0 c.toNat 0 [] [] false]⟩) ?_ rfl ((af.vg (l:=y.2.l) (h.aw (l:=[y.2.cc,z.an,z.head.au,z.inter.au,z.text.au,au 170 eP _ _ (y.2.l++[eB 1 0 c.toNat 0 [] [] false])]) ae) rfl).aw ae);exact⟨i.g.trans e.g,i.wf,i.most.trans e.most,by simp;omega,BD e.ok (by simpa using BC (qb c)),ik.none i.wf.dec (HK aa)⟩)
 refine al ?_;refine aj (λL=>?_) (λL=>?_);refine al ?_;refine cI (λa b=>Bs a p b o) (λx f=>?_);refine aZ (l0:=kD x.2::c7 (hl p x.1)) ae rfl zA rfl (λa b=>vh a (hl p x.1) x.2 (b.bp ae) (vi j f.1) (by have:=f.2.1;omega)) (λy e=>?_);rw[show gi p.g=gi y.1.g by rw[e.g]];refine aq ?_;refine cI (λa b=>Bz a y.1 b e.wf) (λu d=>?_);have D:=fp e.len f.2.1
 have W:=d.len
 refine er (E:=eP) gM rfl rfl rfl nk (λ_ _=>ss) b4 aa (λX Y=>?_);refine aS ?_;rw[show gi y.1.g=gi u.1.g by rw[d.g]];refine ar ?_;refine aZ (l0:=c7 u.1) ae rfl hB rfl (λa b=>hP a u.1 (b.bp ae) d.wf _) (λz i=>?_);refine bw ?_;intro k h
 (refine aP.bP (z,⟨_,_,y.2.l++u.2.l⟩) ?_ rfl ((af.BB (l:=y.2.l) (m:=u.2.l) (h.aw (l:=[y.2.cc,u.2.cc,z.an,z.head.au,z.inter.au,z.text.au,au 170 eP _ _ (y.2.l++u.2.l)]) ae)).aw ae);exact⟨i.g.trans (d.g.trans e.g),i.wf,i.most.trans (d.most.trans e.most),by simp;omega,BD e.ok d.ok,SO aa f e d i⟩)
 refine cE ?_;refine aj (λM=>?_) (λM=>?_);refine aC ?_;refine cI (λa b=>Hy a p b o c) (λx f=>?_);refine cI (λa b=>vh a (hl p x.1) x.2 b (vi j f.1) f.2.1) (λy e=>?_);refine aC ?_;intro k h;exact aN y ⟨e.g,e.wf,e.most,fp e.len f.2.1,e.ok,SP bz bz f e⟩ h;refine aK ?_;refine aV 59 rfl (λs=>?_) (λs=>?_);have N:=aY s
 refine w7 ?_;refine cI (λa b=>BA a p b j c) (λu d=>?_);refine aC ?_;intro k h;exact aN u ⟨d.g,d.wf,d.most,by have:=d.len;omega,d.ok,⟨d.wf.dec,λF G r n=>by exact⟨d.R.1,d.R.2 r bz n⟩⟩⟩ h;have N:=a8 s
 refine bw ?_;refine aV 66 rfl (λt=>?_) (λt=>?_);have O:=aY t
 refine kq ?_;refine cI (λa b=>BA a p b j c) (λu d=>?_);refine aC ?_;intro k h;exact aN u ⟨d.g,d.wf,d.most,by have:=d.len;omega,d.ok,⟨d.wf.dec,λF G r n=>by (rw[tc aa aa aa] at n;cases n)⟩⟩ h;have O:=a8 t
 refine bw ?_;refine aV 72 rfl (λA=>?_) (λA=>?_);have P:=aY A
 refine eT ?_;refine aj (λQ=>?_) (λQ=>?_);refine aS ?_;refine cI (λa b=>BA a p b j c) (λu d=>?_);refine aC ?_;intro k h;exact aN u ⟨d.g,d.wf,d.most,by have:=d.len;omega,d.ok,⟨d.wf.dec,λF G r n=>by (rw[tc aa aa aa] at n;cases n)⟩⟩ h;refine aC ?_;refine aZ (l0:=c7 p) ae rfl Ej rfl (λa b=>HI a p (b.bp ae) j c aa aa) (λv B=>?_);refine ay ?_;intro k h;exact aN v B h;have P:=a8 A
 refine hh ?_;refine aZ (l0:=c7 p) ae rfl Ej rfl (λa b=>HI a p (b.bp ae) j c aa aa) (λv B=>?_);refine ay ?_;intro k h;exact aN v B h
structure o0 (s:bk) (w:World):Prop where
 hs: ∃t:bk,t.g=s.g∧t.bf=s.bf∧t.y=s.y∧t.an.pred w
theorem o0.of {s:bk} {b w:World} {S:List Nat} {cs:List Chunk} (t:bk) (a:t.g=s.g) (c:t.bf=s.bf) (d:t.y=s.y) (h:af b S cs w) (e:Has cs t.an):o0 s w:=⟨⟨t,a,c,d,h.has e⟩⟩
theorem BE {w:World} {g o:Nat} {xs:List Value} {t:TypeId} {v:Value} (h: (aD g xs t).pred w) (a:xs[o]? = some v):w.cell? ⟨g,o,none⟩=some v:=by
 have b:w.heap[g]? = some (.cells xs.toArray t (0,0)):=h
 rw[cell_of_row w g o xs.toArray t (0,0) b];simpa using a
theorem o0.y {s:bk} {w:World} (h:o0 s w):w.cell? ⟨s.g,0+16,none⟩=some (.int .i64 s.y):=by
 obtain⟨t,a,d,b,c⟩:=h.hs;rw[←a,←b];exact BE c rfl
theorem o0.bf {s:bk} {w:World} (h:o0 s w) (j:Nat) (u:Value) (a: (s.bf.enc)[j]? = some u):w.cell? ((⟨s.g,0+0,none⟩ :Addr).add j)=some u:=by
 obtain⟨t,b,c,i,d⟩:=h.hs;rw[←b,Addr.add_lit];rw[←c] at a
 refine BE d ?_;have e:eU t=t.bf.enc++(eU t).drop 14:=rfl
 have f:=(cU.1 a).1
 rw[e,mW (by simpa using f)];simpa using a
theorem SR (w:World) (s:bk) (i:bb w (aO s)) (b:dO s) (k:dV s.abs):
 Calls prog 215 [ptr s.g].toArray w (eg s (.tuple #[]) (G9 s.abs) w):=by
 obtain⟨q,l,t,v,z⟩:=k.nums;refine bI func215 ntmps215 i ?_;refine aC ?_;refine ew [0,1,2,3,4,5,6,7,8,9,10] 3 [[(11,false,[12,13,14]),(15,false,[16,17]),(18,true,[])]] (_) mixed ab (λ_ c=>c.drew) (λ_ h=>o0.of s rfl rfl rfl h aQ) ?_;refine ay ?_;refine aL rfl (λe a=>(cw (vs:=s.bf.enc) qO rfl rfl rfl (λm d j u o=>by subst d;exact a.bf j u o) aG)) ?_;refine ah ?_;refine aL rfl (λe a=>(ba bM rfl rfl (λm d=>by subst d;exact a.y) aG)) ?_;refine ah ?_;refine ao rfl i7 rfl (λp f=>ji p s (f.has aQ) (f.has bF) l) ?_;refine bY (λ_=>True) (λ_ h=> .inr (o0.of s rfl rfl rfl h Has.head)) (λ_ h=>aU) ?_;refine aL rfl (λe a=>(ki (out:=[.int .i64 s.bf.at_.dg,.int .i64 s.bf.at_.fn,.int .i64 s.bf.at_.an,.int .i64 s.bf.at_.aM,.int .i64 s.bf.at_.fl,.int .i64 s.bf.aF.fs,.int .i64 s.bf.aF.s1,.int .i64 s.bf.aF.s2,.int .i64 s.bf.aF.lg,.int .i64 s.bf.aF.use,.int .i64 s.bf.aF.jU,.bool s.bf.put,.bool s.bf.wrap,.bool s.bf.home,.int .i64 s.y,.int .i64 (min s.x (s.ap.cols - 1))]) zl rfl rfl (by simp[hx,putAt,dd,Value.cells]) aG)) ?_;refine aS ?_;refine eX un rfl rfl (by rw[G_];exact bn.head) rfl (aI.cons rfl (aI.cons rfl (aI.cons rfl (aI.cons rfl (aI.cons rfl (aI.cons rfl (fY rfl rfl rfl rfl rfl rfl rfl rfl rfl rfl))))))) (by exact dT rfl) ?_;refine bY (λ_=>True) (λ_ h=> .inr ⟨.inr (o0.of { s with fP:=s.bf,kw:=s.y,kx:=min s.x (s.ap.cols - 1) } rfl rfl rfl h Has.head),dj⟩) (λ_ h=>aU) ?_;refine aJ ?_;intro A c;exact e6 { s with fP:=s.bf,kw:=s.y,kx:=min s.x (s.ap.cols - 1),has:=true } ⟨rfl,rfl,rfl⟩ ⟨b.r,b.st,b.n⟩ rfl rfl c ae
abbrev td (s:bk):List Value:=[.int .i64 s.y,.int .i64 s.x,.int .i64 s.bf.at_.dg,.int .i64 s.bf.at_.fn,.int .i64 s.bf.at_.an,.int .i64 s.bf.at_.aM,.int .i64 s.bf.at_.fl,.int .i64 s.bf.aF.fs,.int .i64 s.bf.aF.s1,.int .i64 s.bf.aF.s2,.int .i64 s.bf.aF.lg,.int .i64 s.bf.aF.use,.int .i64 s.bf.aF.jU,.bool s.bf.put,.bool s.bf.wrap,.bool s.bf.home,.int .i64 s.top,.int .i64 s.cO,.bool s.has]
theorem BF (a b c d e f g h i j k l m n o p q r t:Value) (s:bk):dd [a,b,c,d,e,f,g,h,i,j,k,l,m,n,o,p,q,r,t] 0 (td s)=td s:=by
 simp only[dd,td,dG,Nat.reduceAdd,qy,mo]
set_option maxHeartbeats 1000000 in
theorem jl (w:World) (s:bk) (c:s.an.pred w):Calls prog 128 [ptr s.g].toArray w (Pure (.agg (td s).toArray) w):=by
 refine aW func128 ntmps128 ?_;refine ah ?_;intro i k l;refine bH ?_;refine bG [0,1,2,3,4,5,6,7,8,9,10,11,12,13,14,15,16,17,18,19,20,21,22,23,24,25,26,27,28,29,30,31,32,33,34,35,36] 1 [[(37,true,[])]] ?_;refine ah ?_;refine aL rfl (λd a=>(ba bM rfl rfl (λe b=>by subst b;exact a.bV c (by (simp;done)) rfl) aG)) ?_;refine ah ?_;refine aL rfl (λd a=>(ba bM rfl rfl (λe b=>by subst b;exact a.bV c (by (simp;done)) rfl) aG)) ?_;refine ay ?_;refine aL rfl (λd a=>(cw (vs:=[.int .i64 s.bf.at_.dg,.int .i64 s.bf.at_.fn,.int .i64 s.bf.at_.an,.int .i64 s.bf.at_.aM,.int .i64 s.bf.at_.fl]) r_ rfl rfl rfl (λe b j u f=>by subst b;exact a.jy (sz:=5) (o:=0) (xs:=eU s) c av rfl j u f) aG)) ?_;refine aS ?_;refine aL rfl (λd a=>(cw (vs:=s.bf.aF.enc) lF rfl rfl rfl (λe b j u f=>by subst b;exact a.jy (sz:=6) (o:=5) (xs:=eU s) c av rfl j u f) aG)) ?_;refine aS ?_;refine aL rfl (λd a=>(cw (vs:=[.bool s.bf.put,.bool s.bf.wrap,.bool s.bf.home]) DP rfl rfl rfl (λe b j u f=>by subst b;exact a.jy (sz:=3) (o:=11) (xs:=eU s) c av rfl j u f) aG)) ?_;refine ah ?_;refine aL rfl (λd a=>(ba bM rfl rfl (λe b=>by subst b;exact a.bV c (by (simp;done)) rfl) aG)) ?_;refine ah ?_;refine aL rfl (λd a=>(ba bM rfl rfl (λe b=>by subst b;exact a.bV c (by (simp;done)) rfl) aG)) ?_;refine ah ?_;refine aL rfl (λd a=>(ba px rfl rfl (λe b=>by subst b;exact a.bV c (by (simp;done)) rfl) aG)) ?_;refine aL rfl (λd a=>(ki (out:=td s) LP rfl rfl (by simp[hx,putAt,dd,Value.cells,gv.enc,fO.enc]) aG)) ?_;refine ar ?_;refine eX zq rfl rfl (by rw[BF];exact bn.head) rfl (aI.cons rfl (aI.cons rfl (aI.cons rfl (aI.cons rfl (aI.cons rfl (aI.cons rfl (aI.cons rfl (aI.cons rfl (aI.cons rfl (fY rfl rfl rfl rfl rfl rfl rfl rfl rfl rfl)))))))))) (by exact dT rfl) ?_;refine al ?_;intro m h;exact⟨rfl,h.ext⟩
structure ge (k:Nat) (s z:bk):Prop where
 g:z.g=s.g
 ap:z.ap.g=s.ap.g
 st:z.st.g=s.st.g
 wf:dO z
 kept:cP k s.abs z.abs
theorem ge.refl {s:bk} (h:dO s):ge 0 s s:=⟨rfl,rfl,rfl,h,cP.refl _⟩
theorem ge.trans {a b:Nat} {s z u:bk} (h:ge a s z) (k:ge b z u):ge (a+b) s u:=⟨k.g.trans h.g,k.ap.trans h.ap,k.st.trans h.st,k.wf,h.kept.trans k.kept⟩
theorem ge.mono {a b:Nat} {s z:bk} (h:ge a s z) (c:a≤b):ge b s z:=⟨h.g,h.ap,h.st,h.wf,h.kept.mono c⟩
theorem hM.gV {s z:bk} {q:bd} {k:Nat} (h:hM s q z) (a:cP k s.abs q):ge k s z:=⟨h.g,h.ap,h.st,h.wf,h.abs▸a⟩
theorem ge.fits {k:Nat} {s z:bk} (h:ge k s z) (a:dV s.abs):dV z.abs∧z.ap.be.l.length≤s.ap.be.l.length+k:=⟨h.kept.wf a,h.kept.be⟩
def dW (k:Nat) (s:bk) (v:Value) (w:World):Ending→World→Prop:=aP (λ_:bk=>v) (aO s) aO (ge k s) w
theorem HL {s:bk} {k:Nat} {i:bq} {q:bZ} (b:dO s) (hi:i.g=s.ap.g∧cV i.r∧i.abs=q) (c:Kept k s.ap.abs q):ge k s { s with ap:=i }:=by
 refine⟨rfl,hi.1,rfl,⟨hi.2.1,b.st,?_⟩,?_⟩;have a:=c.cols
 rw[←hi.2.2] at a
 have d:i.cols=s.ap.cols:=a
 rw[b.n,←d];have a: ({ s with ap:=i }:bk).abs= { s.abs with bC:=q }:=by simp only[bk.abs,hi.2.2]
 rw[a];exact hN s.abs (f:=λ_=>q) c
theorem SS (w:World) (s:bk) (E:bb w (aO s)) (F:dO s) (o:dV s.abs):
 Calls prog 165 [ptr s.g].toArray w (dW 0 s (.tuple #[]) w):=by
 refine bI func165 ntmps165 E ?_;refine bH ?_;refine cI (λb a=>u0 b s a F o.bC) (λz k=>?_);refine aS ?_;have p:=k.gV (G4 s.abs)
 obtain⟨v,c6⟩:=p.fits o;obtain⟨Q,R,S,y,T⟩:=v.nums;rw[←k.g];refine ar ?_;refine ao rfl nd rfl (λb a=>nB b z z.ap rfl (a.has aQ) (a.has bF)) ?_;refine aS ?_;refine b3 (ι:=Nat × bk) (λi=>[(0,ptr z.g),(9,.int .i64 (z.ap.s.l.length:Int)),(10,.int .i64 (i.1 :Int))]) (λi=>af w (aB (aO s)) (aO i.2)) (λi=>i.1≤z.ap.s.l.length∧ge 0 z i.2) (λi=>z.ap.s.l.length - i.1) ?_ ?_;exact λw' n=>⟨(0,z),⟨bN _,ge.refl k.wf⟩,(dZ rfl rfl rfl),n.aw ae⟩
 rintro⟨i,q⟩ ⟨hi,d⟩;dsimp only at hi d ⊢
 obtain⟨f,U⟩:=d.fits v;obtain⟨V,W,X,Y,Z⟩:=f.nums;rw[←d.g];refine al ?_;refine aj (λG=>?_) (λG=>?_);refine bo ?_;refine bG [0,1,2,3,4,5,7] 2 [[(6,false,[]),(8,true,[])]] ?_;refine aJ ?_;refine ao rfl jv rfl (λb a=>jX b q q.ap rfl (a.has aQ) (a.has bF)) ?_;refine ah ?_;refine aZ (l0:=bB q.ap) ae rfl ut rfl (λb a=>uV b q.ap (a.bp ae) d.wf.r f.bC (i:Int) 0 q.ap.cols 0 0 aa) (λH A=>?_);refine ay ?_;have j:=HL d.wf A (oK q.ap.abs _ _ _ _ _)
 have B:=sU (t:=q) A.1
 generalize Za: ({ q with ap:=H }:bk)=c at j B
 refine cG (H':=af w (aB (aO s)) (aO c)) ?_ (Sub.refl _) (λx y=>by rw[B];exact y.aw ae);obtain⟨I,Zb⟩:=j.fits f;obtain⟨Zc,Zd,Ze,Zf,Zg⟩:=I.nums;rw[←j.g];refine ar ?_;refine ao rfl jv rfl (λb a=>jX b c c.ap rfl (a.has aQ) (a.has bF)) ?_;refine aS ?_;refine b3 (ι:=Nat × bk) (λm=>[(0,ptr c.g),(2,.int .i64 (i:Int)),(9,.int .i64 (z.ap.s.l.length:Int)),(10,.int .i64 (i:Int)),(23,.int .i64 c.ap.cols),(24,.int .i64 (m.1 :Int))]) (λm=>af w (aB (aO s)) (aO m.2)) (λm=>m.1≤c.ap.cols.toNat∧ge 0 q m.2) (λm=>c.ap.cols.toNat - m.1) ?_ ?_;exact λw' n=>⟨(0,c),⟨bN _,j⟩,(hg rfl rfl rfl rfl rfl rfl),n⟩
 rintro⟨m,u⟩ ⟨J,e⟩;dsimp only at J e ⊢
 obtain⟨C,Zh⟩:=e.fits f;obtain⟨Zi,Zj,Zk,Zl,Zm⟩:=C.nums;rw[j.g,←e.g];refine al ?_;refine aj (λK=>?_) (λK=>?_);refine eT ?_;refine cI (λb a=>F9 b u.ap a e.wf.r C.bC (i:Int) (m:Int) 69 ⟨0,0,0,0,0⟩) (λL D=>?_);refine aC ?_;have M:=HL e.wf D (uT u.ap.abs _ _ _ _)
 exact bg (m+1,{ u with ap:=L }) ⟨by show m+1≤_;omega,(e.trans M).mono aa⟩ (by show c.ap.cols.toNat - (m+1)<c.ap.cols.toNat - m;omega) (hg rfl rfl rfl rfl rfl rfl) (λ_ h=>by rw[sU D.1];exact h.aw ae);refine aR ?_;exact bg (i+1,u) ⟨by show i+1≤_;omega,(d.trans e).mono aa⟩ (by show z.ap.s.l.length - (i+1)<z.ap.s.l.length - i;omega) (dZ rfl rfl rfl) (λ_ h=>h.aw ae);refine aC ?_;refine cI (λb a=>xK b q a d.wf f.bC 0 0) (λN O=>?_);refine ar ?_;intro Zn P;exact aN N (((p.trans d).trans (O.gV (xJ _ _ _))).mono aa) P
end Go.Proofs.YtkeokgcdnfjaaaaGreatDoor.Mq
