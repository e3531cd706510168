/- part 21 of the proof -/
import Derived.Test.YtoghoobfpcadbaaGreatDoorQ20
namespace Go.Proofs.YtoghoobfpcadbaaGreatDoor.Mq
open Go Go.RowKit Go.Proofs Tryz
abbrev Bv (v:Value) (w:World):Ending→World→Prop:=λe w'=>e= .returned v∧Ext [] w w'
structure is where
 A:Option Addr
 c:Nat
 l:List UInt8
abbrev is.val (r:is):Value:= .slice r.A r.l.length r.c
abbrev is.au (r:is):Chunk:=Mq.au 5 cD r.A r.c r.l
abbrev l5:is:=⟨none,0,[]⟩
structure nP where
 n:Int
 jn:Int
 l6:Int
 lo:Int
 hi:Int
structure cg where
 g:Nat
 pre:Int
 head:is
 inter:is
 text:is
 last:Int
 j_:Bool
 cut:Bool
 most:Int
 state:Int
 dec:nP
abbrev ST (p:cg):List Value:=[.int .u8 p.pre,p.head.val,p.inter.val,p.text.val,.int .u8 p.last,.bool p.j_,.bool p.cut,.int .i64 p.most,.int .i64 p.state,.int .i32 p.dec.n,.int .i64 p.dec.jn,.int .i64 p.dec.l6,.int .u8 p.dec.lo,.int .u8 p.dec.hi]
abbrev cg.an (p:cg):Chunk:=aE p.g (ST p) 211
abbrev c_ (p:cg):List Chunk:=[p.an,p.head.au,p.inter.au,p.text.au]
abbrev gq (g:Nat):Value:= .pointer (some ⟨g,0,none⟩)
abbrev Bw (g:Nat):Value:= .pointer (some ⟨g,9,none⟩)
abbrev hx (p:cg) (d:nP):cg:={ p with dec:=d }
def kI:bx Int:=⟨λr=>[.int .i32 r],1,λ_=>rfl,λ_=>aH.cons rfl aH.nil⟩
abbrev kJ (i:Option Addr × Nat × List Int):Chunk:=au 21 kI i.1 i.2.1 i.2.2
abbrev Bx (i:Option Addr × Nat × List Int):Value:= .slice i.1 i.2.2.length i.2.1
theorem af.eO {α:Type} (e:TypeId) (E:bx α) {b:World} {S:List Nat} {cs:List Chunk} {w:World} (h:af b S cs w):af b S (au e E none 0 []::cs) w:=h.na (by exact World.ownsRow_nil _ _ _ _) rfl
structure mT (d:nP):Prop where
 jn:0≤d.jn∧d.jn≤3
 l6:0≤d.l6∧d.l6≤4 - d.jn
def HE (k:Nat) (d:nP) (c:UInt8) (i:nP × Option Addr × Nat × List Int):Prop:=
 mT i.1∧i.2.2.2.length≤k∧(d.jn=0→c.toNat<128→i.1=d∧i.2.2.2=[(c.toNat:Int)])
def HF (k:Nat) (p:cg) (c:UInt8) (w:World):Ending→World→Prop:=
 aO (λi:nP × Option Addr × Nat × List Int=>Bx i.2) [p.an] (λi=>[(hx p i.1).an,kJ i.2]) (HE k p.dec c) w
def kK (c:Int):Int:=if c<128 then 1 else if c<194∨244<c then 0 else if c<224 then 2 else if c<240 then 3 else 4
theorem SU (w:World) (c:Int):Calls prog 219 [.int .u8 c].toArray w (Bv (.int .i64 (kK c)) w):=by
 refine aW func219 ntmps219 ?_;refine b_ ?_;refine aj (λd=>?_) (λd=>?_);refine aJ ?_;intro b a;exact⟨by simp only[kK,Ending.returned.injEq,Value.int.injEq,true_and];omega,a.ext⟩;refine ax ?_;refine aX 9 rfl (λaK=>?_) (λaK=>?_);have e:=a1 aK
 refine dx ?_;intro b a;exact⟨by simp only[kK,Ending.returned.injEq,Value.int.injEq,true_and];omega,a.ext⟩;have e:=bc aK
 refine aL ?_;refine aj (λf=>?_) (λf=>?_);refine aJ ?_;intro b a;exact⟨by simp only[kK,Ending.returned.injEq,Value.int.injEq,true_and];omega,a.ext⟩;refine aD ?_;refine aj (λg=>?_) (λg=>?_);refine aJ ?_;intro b a;exact⟨by simp only[kK,Ending.returned.injEq,Value.int.injEq,true_and];omega,a.ext⟩;refine aD ?_;refine aj (λh=>?_) (λh=>?_);refine aJ ?_;intro b a;exact⟨by simp only[kK,Ending.returned.injEq,Value.int.injEq,true_and];omega,a.ext⟩;refine aR ?_;intro b a;exact⟨by simp only[kK,Ending.returned.injEq,Value.int.injEq,true_and];omega,a.ext⟩
def o2 (c:Int):Int × Int:=if c=224 then (160,191) else if c=237 then (128,159) else if c=240 then (144,191) else if c=244 then (128,143) else (128,191)
theorem SV (w:World) (c:Int):Calls prog 220 [.int .u8 c].toArray w (Bv (.tuple #[.int .u8 (o2 c).1,.int .u8 (o2 c).2]) w):=by
 refine aW func220 ntmps220 ?_;refine eM ?_;refine aj (λd=>?_) (λd=>?_);refine aR ?_;intro b a;exact⟨by unfold o2;repeat (rw[ay bA]),a.ext⟩;refine al ?_;refine aj (λaK=>?_) (λaK=>?_);refine aR ?_;intro b a;exact⟨by unfold o2;repeat (first | rw[ay bA] | rw[ag bA]),a.ext⟩;refine al ?_;refine aj (λe=>?_) (λe=>?_);refine aR ?_;intro b a;exact⟨by unfold o2;repeat (first | rw[ay bA] | rw[ag bA]),a.ext⟩;refine al ?_;refine aj (λf=>?_) (λf=>?_);refine aR ?_;intro b a;exact⟨by unfold o2;repeat (first | rw[ay bA] | rw[ag bA]),a.ext⟩;refine bp ?_;intro b a;exact⟨by unfold o2;repeat (rw[ag bA]),a.ext⟩
theorem SW (w:World) (c sz:Int) (h:kK c=sz):Calls prog 219 [.int .u8 c].toArray w (Bv (.int .i64 sz) w):=by subst h;exact SU w c
theorem SX (c:Int):0≤kK c∧kK c≤4:=by unfold kK;omega
theorem By (w:World) (p:cg) (j:a8 w [p.an]) (ak:mT p.dec) (n:p.dec.jn=0) (o:p.dec.l6≤4) (c:UInt8):
 Calls prog 155 [Bw p.g,.int .u8 (c.toNat:Int)].toArray w (HF 1 p c w):=by
 obtain⟨sz,b⟩ : ∃k,kK (c.toNat:Int)=k:=⟨_,rfl⟩;have l:=SX (c.toNat:Int)
 rw[b] at l
 have e:=c.toNat_lt
 refine bC func155 ntmps155 j ?_;refine aL ?_;refine ao rfl Nz rfl (λd e=>SW d _ sz b) ?_;refine dx ?_;refine aj (λf=>?_) (λf=>?_);refine aq ?_;refine dG (E:=kI) _ ox rfl rfl rfl rfl rfl (λq r s=>?_);refine aD ?_;intro i a
 (refine aO.bQ (p.dec,_,_,[_]) ?_ rfl (a.aw ae);exact⟨ak,by simp,λ_ h=>absurd f (by unfold kK at b;omega)⟩)
 refine al ?_;refine aj (λaK=>?_) (λaK=>?_);refine ah ?_;refine dm rfl rfl underlying5 underlying21 rfl ?_;refine dG (E:=kI) _ ox rfl rfl rfl rfl rfl (λt u v=>?_);refine aD ?_;intro i a
 (refine aO.bQ (p.dec,_,_,[_]) ?_ rfl (a.aw ae);exact⟨ak,by simp,λ_ h=>⟨rfl,by rw[uJ aa aa]⟩⟩)
 refine aD ?_;refine dm rfl rfl underlying5 underlying21 rfl ?_;refine aq ?_;refine Hz rfl rfl rfl aa (λx=>?_);refine gN rfl rfl rfl rfl ?_;refine Hx rfl rfl rfl (λm=>?_);refine jC ?_;refine ao rfl NA rfl (λd e=>SV d _) ?_;refine e4 ?_;intro i a
 (refine aO.bQ (⟨m,sz - 1,1,(o2 c.toNat).1,(o2 c.toNat).2⟩,none,0,[]) ?_ rfl ((a.eO 21 kI).aw ae);exact⟨⟨by dsimp only;omega,by dsimp only;omega⟩,by simp,λ_ h=>absurd aK (by unfold kK at b;omega)⟩)
theorem HG (w:World) (p:cg) (s:a8 w [p.an]) (ak:mT p.dec) (c:UInt8):
 Calls prog 106 [Bw p.g,.int .u8 (c.toNat:Int)].toArray w (HF 2 p c w):=by
 have F:=ak.jn
 have G:=ak.l6
 refine bC func106 ntmps106 s ?_;refine sE ?_;refine aj (λd=>?_) (λd=>?_);refine aS ?_;refine aY (l0:=[p.an]) ae rfl zP rfl (λe f=>By e p (f.bo ae) ak bA aa c) (λz a=>?_);refine al ?_;intro i b;exact aN z ⟨a.1,by have:=a.2.1;omega,a.2.2⟩ b;refine bB ?_;refine aX 21 rfl (λaK=>?_) (λaK=>?_);have t:=a1 aK
 refine jC ?_;refine dG (E:=kI) _ ox rfl rfl rfl rfl rfl (λu v x=>?_);refine aq ?_;refine aY (l0:=[(hx p ⟨p.dec.n,0,0,p.dec.lo,p.dec.hi⟩).an]) ae rfl zP rfl (λe f=>By e (hx p ⟨p.dec.n,0,0,p.dec.lo,p.dec.hi⟩) (f.bo ae) ⟨by simp,by simp⟩ rfl av c) (λz a=>?_);obtain⟨⟨j,k,l,m,o⟩,y,A,B⟩:=z;have q:=a.2.1
 dsimp only at q
 refine ew (E:=kI) ox rfl rfl rfl cB (λ_ _=>er) b7 b7 (λH I=>?_);refine al ?_;intro i b
 (refine aO.bQ (⟨j,k,l,m,o⟩,_,_,_) ?_ rfl (b.aw ae);exact⟨a.1,by simp;omega,λh=>absurd h d⟩)
 have t:=bc aK
 refine cI ?_;refine aj (λC=>?_) (λC=>?_);refine b_ ?_;refine dG (E:=kI) _ ox rfl rfl rfl rfl rfl (λu v x=>?_);refine aq ?_;refine aY (l0:=[(hx p ⟨p.dec.n,0,0,p.dec.lo,p.dec.hi⟩).an]) ae rfl zP rfl (λe f=>By e (hx p ⟨p.dec.n,0,0,p.dec.lo,p.dec.hi⟩) (f.bo ae) ⟨by simp,by simp⟩ rfl av c) (λz a=>?_);obtain⟨⟨j,k,l,m,o⟩,y,A,B⟩:=z;have q:=a.2.1
 dsimp only at q
 refine ew (E:=kI) ox rfl rfl rfl cB (λ_ _=>er) b7 b7 (λJ K=>?_);refine al ?_;intro i b
 (refine aO.bQ (⟨j,k,l,m,o⟩,_,_,_) ?_ rfl (b.aw ae);exact⟨a.1,by simp;omega,λh=>absurd h d⟩)
 refine aJ ?_;refine Hz rfl rfl rfl aZ (λL=>?_);refine ar ?_;refine Hx rfl rfl rfl (λM=>?_);refine dm rfl rfl underlying5 underlying21 rfl ?_;refine Hy rfl rfl rfl (λr=>?_);refine Ps ?_;refine aj (λD=>?_) (λD=>?_);refine aL ?_;intro i b
 (refine aO.bQ (⟨r,p.dec.jn - 1,p.dec.l6+1,128,191⟩,none,0,[]) ?_ rfl ((b.eO 21 kI).aw ae);exact⟨⟨by dsimp only;omega,by dsimp only;omega⟩,by simp,λh=>absurd h d⟩)
 refine dx ?_;refine dG (E:=kI) _ ox rfl rfl rfl rfl rfl (λN O P=>?_);refine ax ?_;intro i b
 (refine aO.bQ (⟨r,p.dec.jn - 1,0,128,191⟩,_,_,[_]) ?_ rfl (b.aw ae);exact⟨⟨by dsimp only;omega,by dsimp only;omega⟩,by simp,λh=>absurd h d⟩)
theorem Bz (w:World) (p:cg) (c:a8 w [p.an]) (ak:mT p.dec):
 Calls prog 103 [Bw p.g].toArray w (aO (λi:nP × Option Addr × Nat × List Int=>Bx i.2) [p.an] (λi=>[(hx p i.1).an,kJ i.2]) (λi=>mT i.1∧i.2.2.2.length≤1∧i.1.jn≤p.dec.jn∧(p.dec.l6=0→i.1=p.dec∧i.2.2.2=[])) w):=by
 have d:=ak.jn
 have f:=ak.l6
 refine bC func103 ntmps103 c ?_;refine jC ?_;refine aj (λb=>?_) (λb=>?_);refine aL ?_;intro e a
 (refine aO.bQ (p.dec,none,0,[]) ?_ rfl ((a.eO 21 kI).aw ae);exact⟨ak,by simp,fQ _,λ_=>⟨rfl,rfl⟩⟩)
 refine bB ?_;refine dG (E:=kI) _ ox rfl rfl rfl rfl rfl (λj k l=>?_);refine ax ?_;intro e a
 (refine aO.bQ (⟨0,0,0,0,0⟩,_,_,[_]) ?_ rfl (a.aw ae);exact⟨⟨by simp,by simp⟩,by simp,d.1,λh=>absurd h b⟩)
def cg.h (p:cg):fX:=⟨p.pre,p.head.l,p.inter.l,p.text.l,p.last,p.j_,p.cut⟩
structure fG (p:cg):Prop where
 head:p.head.l.length≤256
 inter:p.inter.l.length≤2
 text: (p.text.l.length:Int)≤p.most
 most:1≤p.most∧p.most≤65536
 dec:mT p.dec
 ak: (0≤p.pre∧p.pre≤255)∧0≤p.last∧p.last≤255
theorem qh (c:UInt8):0≤(c.toNat:Int)∧(c.toNat:Int)≤255:=by have:=c.toNat_lt;omega
theorem HH (r:Int):0≤IntKind.u8.wrap r∧IntKind.u8.wrap r≤255:=by simp[IntKind.wrap,IntKind.bits,IntKind.signed];omega
structure Pa (p:cg) (h:fX) (st:Int) (q:cg):Prop where
 g:q.g=p.g
 wf:fG q
 h:q.h=h
 st:q.state=st
 most:q.most=p.most
 dec:q.dec=p.dec
def yb (p:cg) (h:fX) (st:Int) (w:World):Ending→World→Prop:=aO (λ_:cg=> .tuple #[]) (c_ p) c_ (Pa p h st) w
def SY (p:cg) (st:Int) (w:World):Ending→World→Prop:=aO (λ_:cg=> .tuple #[]) (c_ p) c_ (λz=>Pa p z.h st z) w
theorem Pa.any {p q:cg} {h:fX} {st:Int} (k:Pa p h st q):Pa p q.h st q:=⟨k.g,k.wf,rfl,k.st,k.most,k.dec⟩
theorem af.BA {b:World} {S:List Nat} {cs cs':List Chunk} {c:Chunk} {w:World} (h:af b S cs w) (a:aB cs [c] cs'):af b S [c,l5.au,l5.au,l5.au] w:=by
 have d:=(((h.aw a).eO 5 cD).eO 5 cD).eO 5 cD
 exact d.aw ae
theorem ls (w:World) (p:cg) (b:a8 w (c_ p)) (a:fG p):
 Calls prog 314 [gq p.g].toArray w (yb p Bu p.state w):=by
 refine bC func314 ntmps314 b ?_;refine aD ?_;intro d c;exact aO.bQ { p with pre:=0,head:=l5,inter:=l5,text:=l5,last:=0,j_:=true,cut:=false } ⟨rfl,⟨by simp,by simp,by have:=a.most;simp;omega,a.most,a.dec,by simp⟩,rfl,rfl,rfl,rfl⟩ rfl (c.BA ae)
theorem ro (w:World) (p:cg) (i:a8 w (c_ p)) (a:fG p) (c:UInt8):
 Calls prog 221 [gq p.g,.int .u8 (c.toNat:Int)].toArray w (yb p (ya p.h c) p.state w):=by
 have hi:=a.inter
 refine bC func221 ntmps221 i ?_;refine bp ?_;refine aj (λj=>?_) (λj=>?_);have k:ya p.h c=Bu:=ay (by show p.inter.l.length=2;omega)
 refine aq ?_;refine cE (λm n=>ls m p n a) (λz d=>?_);refine ah ?_;have o:z.j_=true:=aV fX.j_ d.h
 have t:=d.wf.inter
 rw[k,←d.g];refine aL ?_;refine b6 rfl (λe=>?_) (λe=>?_);simp only[b3] at e
 refine aD ?_;refine dG (E:=cD) _ fk rfl rfl rfl rfl rfl (λq r s=>?_);refine ew (E:=cD) fk rfl rfl rfl bi (λ_ _=>ld) b7 b7 (λu v=>?_);refine ax ?_;intro f b;exact Bool.noConfusion (o.symm.trans e);simp only[b3] at e
 refine aq ?_;intro f b;exact aN z d b;refine bp ?_;refine b6 rfl (λaK=>?_) (λaK=>?_);simp only[b3] at aK
 refine aD ?_;refine dG (E:=cD) _ fk rfl rfl rfl rfl rfl (λq r s=>?_);refine ew (E:=cD) fk rfl rfl rfl bi (λ_ _=>ld) b7 b7 (λx y=>?_);refine ax ?_;intro f b;exact aO.bQ { p with inter:=⟨_,_,p.inter.l++[c]⟩ } ⟨rfl,⟨a.head,by simp;omega,a.text,a.most,a.dec,a.ak⟩,by rw[ya,ag (by show ¬p.inter.l.length=2;omega),ag (by show ¬p.j_=true;simp[*])];rfl,rfl,rfl,rfl⟩ rfl (b.aw ae);simp only[b3] at aK
 refine aq ?_;intro f b;exact aN p ⟨rfl,a,by rw[ya,ag (by show ¬p.inter.l.length=2;omega),ay bA],rfl,rfl,rfl⟩ b
theorem SZ (w:World) (p:cg) (B:a8 w (c_ p)) (a:fG p) (c:UInt8):
 Calls prog 222 [gq p.g,.int .u8 (c.toNat:Int)].toArray w (SY p p.state w):=by
 have hi:=a.head
 refine bC func222 ntmps222 B ?_;refine aR ?_;refine b6 rfl (λC=>?_) (λC=>?_);refine ah ?_;intro h b;exact aN p ⟨rfl,a,rfl,rfl,rfl,rfl⟩ b;refine ax ?_;refine aX 22 rfl (λaK=>?_) (λaK=>?_);have D:=a1 aK
 refine bB ?_;refine aX 29 rfl (λi=>?_) (λi=>?_);have F:=a1 i
 refine b_ ?_;refine aX 37 rfl (λj=>?_) (λj=>?_);have G:=a1 j
 refine dx ?_;refine aj (λH=>?_) (λH=>?_);refine aJ ?_;intro h b;exact aN { p with pre:=c.toNat } ⟨rfl,⟨a.head,a.inter,a.text,a.most,a.dec,qh c,a.ak.2⟩,rfl,rfl,rfl,rfl⟩ b;refine ax ?_;refine aX 52 rfl (λk=>?_) (λk=>?_);have I:=a1 k
 refine hs ?_;refine cE (λd e=>ls d p e a) (λz f=>?_);refine ah ?_;intro h b;exact aN z f.any b;have I:=bc k
 refine b_ ?_;refine aX 60 rfl (λm=>?_) (λm=>?_);have J:=a1 m
 refine bI ?_;refine cE (λd e=>ls d p e a) (λz f=>?_);refine ah ?_;intro h b;exact aN z f.any b;have J:=bc m
 refine dx ?_;refine aj (λK=>?_) (λK=>?_);refine aq ?_;refine cE (λd e=>ls d p e a) (λz f=>?_);refine ah ?_;intro h b;exact aN z f.any b;refine aD ?_;refine dG (E:=cD) _ fk rfl rfl rfl rfl rfl (λn o q=>?_);refine ew (E:=cD) fk rfl rfl rfl bi (λ_ _=>er) aa aa (λU V=>?_);refine al ?_;intro h b;exact aO.bQ { p with head:=⟨_,_,p.head.l++[c]⟩ } ⟨rfl,⟨by simp;omega,a.inter,a.text,a.most,a.dec,a.ak⟩,rfl,rfl,rfl,rfl⟩ rfl (b.aw ae);have G:=bc j
 refine dx ?_;refine aX 52 rfl (λr=>?_) (λr=>?_);have L:=a1 r
 refine hs ?_;refine cE (λd e=>ls d p e a) (λz f=>?_);refine ah ?_;intro h b;exact aN z f.any b;have L:=bc r
 refine b_ ?_;refine aX 60 rfl (λs=>?_) (λs=>?_);have M:=a1 s
 refine bI ?_;refine cE (λd e=>ls d p e a) (λz f=>?_);refine ah ?_;intro h b;exact aN z f.any b;have M:=bc s
 refine dx ?_;refine aj (λN=>?_) (λN=>?_);refine aq ?_;refine cE (λd e=>ls d p e a) (λz f=>?_);refine ah ?_;intro h b;exact aN z f.any b;refine aD ?_;refine dG (E:=cD) _ fk rfl rfl rfl rfl rfl (λn o q=>?_);refine ew (E:=cD) fk rfl rfl rfl bi (λ_ _=>er) aa aa (λy A=>?_);refine al ?_;intro h b;exact aO.bQ { p with head:=⟨_,_,p.head.l++[c]⟩ } ⟨rfl,⟨by simp;omega,a.inter,a.text,a.most,a.dec,a.ak⟩,rfl,rfl,rfl,rfl⟩ rfl (b.aw ae);have F:=bc i
 refine jC ?_;refine aX 52 rfl (λt=>?_) (λt=>?_);have O:=a1 t
 refine hs ?_;refine cE (λd e=>ls d p e a) (λz f=>?_);refine ah ?_;intro h b;exact aN z f.any b;have O:=bc t
 refine b_ ?_;refine aX 60 rfl (λu=>?_) (λu=>?_);have P:=a1 u
 refine bI ?_;refine cE (λd e=>ls d p e a) (λz f=>?_);refine ah ?_;intro h b;exact aN z f.any b;have P:=bc u
 refine dx ?_;refine aj (λQ=>?_) (λQ=>?_);refine aq ?_;refine cE (λd e=>ls d p e a) (λz f=>?_);refine ah ?_;intro h b;exact aN z f.any b;refine aD ?_;refine dG (E:=cD) _ fk rfl rfl rfl rfl rfl (λn o q=>?_);refine ew (E:=cD) fk rfl rfl rfl bi (λ_ _=>er) aa aa (λy A=>?_);refine al ?_;intro h b;exact aO.bQ { p with head:=⟨_,_,p.head.l++[c]⟩ } ⟨rfl,⟨by simp;omega,a.inter,a.text,a.most,a.dec,a.ak⟩,rfl,rfl,rfl,rfl⟩ rfl (b.aw ae);have D:=bc aK
 refine xi ?_;refine aX 52 rfl (λv=>?_) (λv=>?_);have R:=a1 v
 refine hs ?_;refine cE (λd e=>ls d p e a) (λz f=>?_);refine ah ?_;intro h b;exact aN z f.any b;have R:=bc v
 refine b_ ?_;refine aX 60 rfl (λx=>?_) (λx=>?_);have S:=a1 x
 refine bI ?_;refine cE (λd e=>ls d p e a) (λz f=>?_);refine ah ?_;intro h b;exact aN z f.any b;have S:=bc x
 refine dx ?_;refine aj (λT=>?_) (λT=>?_);refine aq ?_;refine cE (λd e=>ls d p e a) (λz f=>?_);refine ah ?_;intro h b;exact aN z f.any b;refine aD ?_;refine dG (E:=cD) _ fk rfl rfl rfl rfl rfl (λn o q=>?_);refine ew (E:=cD) fk rfl rfl rfl bi (λ_ _=>er) b7 b7 (λy A=>?_);refine al ?_;intro h b;exact aO.bQ { p with head:=⟨_,_,p.head.l++[c]⟩ } ⟨rfl,⟨by simp;omega,a.inter,a.text,a.most,a.dec,a.ak⟩,rfl,rfl,rfl,rfl⟩ rfl (b.aw ae)
def vt (p:cg):cg:={ p with pre:=0,head:=l5,inter:=l5,text:=l5,last:=0,j_:=false,cut:=false }
theorem hX (w:World) (p:cg) (b:a8 w (c_ p)) (a:fG p) (st:Int):
 Calls prog 104 [gq p.g,.int .i64 st].toArray w (yb p nO st w):=by
 refine bC func104 ntmps104 b ?_;refine bI ?_;intro d c;exact aO.bQ { vt p with state:=st } ⟨rfl,⟨by simp[vt],by simp[vt],by have:=a.most;simp[vt];omega,a.most,a.dec,by simp[vt]⟩,rfl,rfl,rfl,rfl⟩ rfl (c.BA ae)
def yc (h:fX) (most:Int) (c:UInt8):fX:=if most≤h.text.length then { h with cut:=true } else { h with text:=h.text++[c] }
theorem BB (w:World) (p:cg) (e:a8 w (c_ p)) (a:fG p) (c:UInt8):
 Calls prog 156 [gq p.g,.int .u8 (c.toNat:Int)].toArray w (yb p (yc p.h p.most c) p.state w):=by
 have hi:=a.text
 have i:=a.most
 refine bC func156 ntmps156 e ?_;refine aq ?_;refine bF [0,1,2,3,4,5,6,7,8,9,10] 0 [[]] ?_;refine b_ ?_;refine aj (λb=>?_) (λb=>?_);refine bB ?_;intro f d;exact aN { p with cut:=true } ⟨rfl,⟨a.head,a.inter,a.text,a.most,a.dec,a.ak⟩,by rw[yc,ay (by exact b)];rfl,rfl,rfl,rfl⟩ d;refine aR ?_;refine dG (E:=cD) _ fk rfl rfl rfl rfl rfl (λj k m=>?_);refine ew (E:=cD) fk rfl rfl rfl bi (λ_ _=>ns) b7 b7 (λn o=>?_);refine al ?_;intro f d;exact aO.bQ { p with text:=⟨_,_,p.text.l++[c]⟩ } ⟨rfl,⟨a.head,a.inter,by simp;omega,a.most,a.dec,a.ak⟩,by rw[yc,ag (by exact b)];rfl,rfl,rfl,rfl⟩ rfl (d.aw ae)
theorem Rd.loc {α:Type} {E:bx α} {w w':World} {F:Nat→Prop} {A:Option Addr} {n c:Nat} {l:List α} (h:Rd E w F A n c l) (d: ∀k,F k→w'.heap[k]? = w.heap[k]?):Rd E w' F A n c l:=by
 refine⟨h.len,h.cap,h.max,λe=>?_⟩;obtain⟨b2,f,b,g⟩:=h.cells e;refine⟨b2,f,b,λk a j u i m=>?_⟩;have o:=g k a j u i m
 rw[World.cell?_of_block (w:=w) (w':=w') (by rw[block_add,block_add];exact d _ b)];exact o
theorem ed.loc {w w':World} {F:Nat→Prop} {A:Option Addr} {n c:Nat} {gs:List (List Int)} (h:cr.ed w F A n c gs) (a: ∀k,F k→w'.heap[k]? = w.heap[k]?):cr.ed w' F A n c gs:=by
 obtain⟨b,d,e,f⟩:=h;exact⟨b,Rd.loc d a,e,λk s g i j=>Rd.loc (f k s g i j) a⟩
structure kL where
 A:Option Addr
 n:Nat
 c:Nat
 lo:Nat
 hi:Nat
 gs:List (List Int)
abbrev kL.val (x:kL):Value:= .slice x.A x.n x.c
abbrev qi:kL:=⟨none,0,0,0,0,[]⟩
def kL.aG (x:kL):Chunk:=rn x.lo x.hi (λw=>cr.ed w (λk=>x.lo≤k∧k<x.hi) x.A x.n x.c x.gs) (λ_ _ b h=>ed.loc h (λk a=>b k a.1 a.2))
structure o3 (x:kL):Prop where
 n:x.gs.length≤1000
 g: ∀g∈x.gs,g.length≤1000
theorem HI (w:World):qi.aG.pred w:=⟨by simp,cr.ed.nil w _⟩
theorem HJ:qi.aG.cm=[]:=rfl
theorem BC:o3 qi:=⟨by simp,by simp⟩
theorem S0 (w:World) (s:List UInt8) (b:s.length≤1000000):
 Calls prog 218 [.string (bs s)].toArray w (fd (λi:kL × Bool=> .tuple #[i.1.val,.bool i.2]) (λi=>i.1.aG) (λi=>o3 i.1) w):=by
 refine (cr.Sv w s b).mono ?_;intro e w' h;unfold cr.x7 at h
 split at h
 obtain⟨A,n,c,rfl,a,d⟩:=h;refine⟨(⟨A,n,c,w.heap.size,w'.heap.size,cr.vn s⟩,true),⟨?_,?_⟩,rfl,a,⟨λ_=>ch _,d.hI⟩,?_,x8 _ _ _ _⟩;show (cr.vn s).length≤1000
 have:=cr.vm 59 32 s
 simp[cr.vn]
 omega
 intro g f;obtain⟨x,_,rfl⟩:=dX.1 f;have:=cr.vm 58 8 x
 simp[cr.j6]
 omega
 intro k j;exact (od.1 j).1;obtain⟨rfl,a⟩:=h;exact⟨(qi,false),BC,rfl,a,HI w',by rw[HJ];simp,by rw[HJ];simp⟩
structure dV where
 kind:Int
 r:Int
 byte:Int
 pre:Int
 nums:kL
 inter:List UInt8
 text:List UInt8
 cut:Bool
abbrev dV.enc (e:dV):List Value:=[.int .i64 e.kind,.int .i32 e.r,.int .u8 e.byte,.int .u8 e.pre,e.nums.val,.string (bs e.inter),.string (bs e.text),.bool e.cut]
def eP:bx dV:=⟨dV.enc,8,λ_=>rfl,λ_=>by repeat (first | exact aH.nil | refine aH.cons rfl ?_)⟩
structure gh where
 A:Option Addr
 c:Nat
 l:List dV
abbrev gh.val (r:gh):Value:= .slice r.A r.l.length r.c
abbrev gh.au (r:gh):Chunk:=Mq.au 158 eP r.A r.c r.l
abbrev gh.cj (r:gh):Chunk:=aU (r.l.map (λe=>e.nums.aG))
structure gW where
 kind:Int
 r:Int
 byte:Int
 pre:Int
 inter:List UInt8
 text:List UInt8
 cut:Bool
def dV.abs (e:dV):gW:=⟨e.kind,e.r,e.byte,e.pre,e.inter,e.text,e.cut⟩
structure l7 (e:dV):Prop where
 nums:o3 e.nums
 inter:e.inter.length≤1000
 text:e.text.length≤100000
 u8: (0≤e.byte∧e.byte≤255)∧0≤e.pre∧e.pre≤255
abbrev tj (p:cg) (x:gh):List Chunk:=[p.an,p.head.au,p.inter.au,p.text.au,x.au,x.cj]
structure tk (p:cg) (k:Nat) (R:cg→List gW→Prop) (i:cg × gh):Prop where
 g:i.1.g=p.g
 wf:fG i.1
 most:i.1.most=p.most
 len:i.2.l.length≤k
 ok: ∀e∈i.2.l,l7 e
 R:R i.1 (i.2.l.map dV.abs)
def dH (p:cg) (k:Nat) (R:cg→List gW→Prop) (w:World):Ending→World→Prop:=
 aO (λi:cg × gh=>i.2.val) (c_ p) (λi=>tj i.1 i.2) (tk p k R) w
theorem af.BD {b:World} {S:List Nat} {cs:List Chunk} {w:World} (h:af b S cs w) (es:List dV) (f: ∀e∈es,e.nums=qi):af b S (aU (es.map (λe=>e.nums.aG))::cs) w:=by
 refine h.na (λc a=>?_) ?_;obtain⟨e,d,rfl⟩:=dX.1 a;rw[f e d];exact HI w;show aA (es.map (λe=>e.nums.aG))=[]
 rw[aA,List.flatMap_eq_nil_iff];intro c a;obtain⟨e,d,rfl⟩:=dX.1 a;rw[f e d];rfl
theorem af.BE {b w:World} {S:List Nat} {cs l1 l2:List Chunk} (h:af b S (aU l1::aU l2::cs) w):af b S (aU (l1++l2)::cs) w:=by
 have a:af b S (aU l2::(l1++cs)) w:=h.lb.perm oh
 have c:af b S ((l1++l2)++cs) w:=a.lb.perm (by
  rw[←fh];exact List.perm_append_comm.append_right cs)
 exact c.close'
def BF (e:dV):Prop:=e.nums=qi∧e.inter.length≤1000∧e.text.length≤100000∧(0≤e.byte∧e.byte≤255)∧0≤e.pre∧e.pre≤255
theorem BF.ok {e:dV} (h:BF e):l7 e:=⟨h.1▸BC,h.2.1,h.2.2.1,h.2.2.2⟩
theorem dH.z {p q:cg} {k:Nat} {R:cg→List gW→Prop} {w a:World} {cs cs':List Chunk} {A:Option Addr} {c:Nat} {es:List dV} (d:q.g=p.g) (f:fG q) (i:q.most=p.most) (b: ∀e∈es,BF e) (j:es.length≤k) (l:R q (es.map dV.abs))
 (m:af w (aA (c_ p)) cs a) (n:aB cs [q.an,q.head.au,q.inter.au,q.text.au,au 158 eP A c es] cs'):dH p k R w (.returned (.slice A es.length c)) a:=
 aO.bQ (q,⟨A,c,es⟩) ⟨d,f,i,j,λe h=>(b e h).ok,l⟩ rfl (((m.aw n).BD es (λe h=>(b e h).1)).aw ae)
theorem dH.n {p q:cg} {k:Nat} {R:cg→List gW→Prop} {w a:World} {cs cs':List Chunk} (b:q.g=p.g) (c:fG q) (d:q.most=p.most) (e:R q [])
 (f:af w (aA (c_ p)) cs a) (h:aB cs [q.an,q.head.au,q.inter.au,q.text.au] cs'):dH p k R w (.returned (.slice none 0 0)) a:=
 dH.z (es:=[]) b c d av av e ((f.aw h).eO 158 eP) ae
theorem dH.w {p q:cg} {k:Nat} {R:cg→List gW→Prop} {w a:World} {cs cs':List Chunk} {A:Option Addr} {c:Nat} {e:dV} (b:q.g=p.g) (d:fG q) (f:q.most=p.most) (h:l7 e) (i:1≤k) (j:R q [e.abs])
 (m:af w (aA (c_ p)) cs a) (n:aB cs [q.an,q.head.au,q.inter.au,q.text.au,au 158 eP A c [e],e.nums.aG] cs'):dH p k R w (.returned (.slice A 1 c)) a:=
 aO.bQ (q,⟨A,c,[e]⟩) ⟨b,d,f,by simpa using i,by simpa using h,j⟩ rfl (((m.aw n).close (l:=[e.nums.aG]) ae).aw ae)
theorem HK (w:World) (p:cg) (f:a8 w (c_ p)) (a:fG p) (kind last:Int) (h:0≤last∧last≤255):
 Calls prog 154 [gq p.g,.int .i64 kind,.int .u8 last].toArray w (aO (λe:dV=> .agg e.enc.toArray) (c_ p) (λe=>[p.an,p.head.au,p.inter.au,p.text.au,e.nums.aG]) (λe=>l7 e) w):=by
 refine bC func154 ntmps154 f ?_;refine ah ?_;intro n o q;refine aJ ?_;refine jd underlying59 underlying5 underlying9 rfl rfl (λd b=>gV (b.has cu)) ?_;refine gm rfl Ny rfl (λi r=>S0 i p.head.l (by have:=a.head;omega)) (λz j=>?_);refine aL ?_;refine bF [0,1,2,3,4,5,6,7,8,9,10,11,12,13,14,15,16,17,18,19,20,21,22,23,24,25] 1 [[(26,true,[])]] ?_;refine bI ?_;refine aI rfl (λk c=>(jd underlying59 underlying5 underlying9 rfl rfl (λd b=>by subst b;exact gV (c.has hp)) aC)) ?_;refine ax ?_;refine aI rfl (λk c=>(jd underlying59 underlying5 underlying9 rfl rfl (λd b=>by subst b;exact gV (c.has kv)) aC)) ?_;refine cI ?_;intro s m;exact aN ⟨kind,0,last,p.pre,z.1,p.inter.l,p.text.l,p.cut⟩ ⟨j,by have:=a.inter;simp;omega,by have:=a.text;have:=a.most;simp;omega,h,a.ak.1⟩ m
abbrev eD (kind r byte pre:Int) (inter text:List UInt8) (cut:Bool):dV:=⟨kind,r,byte,pre,qi,inter,text,cut⟩
theorem S1 {p:cg} (h:fG p):p.text.l.length≤100000:=by have:=h.text;have:=h.most;omega
theorem BG (w:World) (p:cg) (k:a8 w (c_ p)) (b:fG p):
 Calls prog 105 [gq p.g].toArray w (dH p 1 (λq cM=>q=p∧(p.state=4→cM=[⟨4,0,0,0,[],p.text.l,p.cut⟩])∧(p.state≠4→p.state≠3→cM=[])) w):=by
 refine bC func105 ntmps105 k ?_;refine et ?_;refine aj (λc=>?_) (λc=>?_);refine ar ?_;refine bF [0,1,2,3,4,5,6,7,8,9,10,11] 1 [[(12,false,[13])]] ?_;refine ax ?_;refine aI rfl (λx m=>(jd underlying59 underlying5 underlying9 rfl rfl (λy o=>by subst o;exact gV (m.has hL)) aC)) ?_;refine aL ?_;refine dG (E:=eP) ⟨_,_,_,_,⟨_,_,_,0,0,[]⟩,_,_,_⟩ gQ rfl rfl rfl rfl rfl (λA B C=>?_);refine bV (λ_=>True) (λ_ h=> .inr (h.rem bv.head)) (λ_ h=>aT) ?_;refine aL ?_;intro f a;exact dH.z (es:=[eD 4 0 0 0 [] p.text.l p.cut]) rfl b rfl (by simpa using ⟨rfl,by simp[eD],S1 b,by dsimp only[eD];omega⟩) av ⟨rfl,λ_=>rfl,λh=>absurd c h⟩ a ae;refine aL ?_;refine aX 28 rfl (λaK=>?_) (λaK=>?_);have j:=a1 aK
 refine b_ ?_;refine aX 36 rfl (λi=>?_) (λi=>?_);have r:=a1 i
 refine dx ?_;refine b6 rfl (λd=>?_) (λd=>?_);have s:=d
 simp only[b3] at d
 refine aL ?_;refine aY (l0:=c_ p) ae rfl Ex rfl (λt u=>HK t p (u.bo ae) b _ _ b.ak.2) (λz v=>?_);refine dG (E:=eP) z gQ rfl rfl rfl rfl rfl (λD F G=>?_);refine aD ?_;intro f a;exact dH.w (e:=z) rfl b rfl v aa ⟨rfl,λh=>absurd h c,λ_ h=>absurd j h⟩ a ae;have s:=d
 simp only[b3] at d
 refine aR ?_;intro f a;exact dH.n rfl b rfl ⟨rfl,λh=>absurd h c,λ_ _=>rfl⟩ a ae;have r:=bc i
 refine hs ?_;intro f a;exact dH.n rfl b rfl ⟨rfl,λh=>absurd h c,λ_ _=>rfl⟩ a ae;have j:=bc aK
 refine xg ?_;intro f a;exact dH.n rfl b rfl ⟨rfl,λh=>absurd h c,λ_ _=>rfl⟩ a ae
def jo (h:fX) (st most:Int) (c:UInt8):Option ((fX × Int) × List gW):=
 if st=0 then
  if (c.toNat:Int)=27 then some ((nO,1),[])
  else if (c.toNat:Int)=24∨(c.toNat:Int)=26∨127≤(c.toNat:Int) then none
  else if (c.toNat:Int)<32 then some ((h,0),[⟨1,0,c.toNat,0,[],[],false⟩])
  else some ((h,0),[⟨0,c.toNat,0,0,[],[],false⟩])
 else if st=1 then (if (c.toNat:Int)=93∧h.inter.length=0∧h.j_=false then some ((nO,4),[]) else none)
 else if st=4 then
  if (c.toNat:Int)=7 then some ((nO,0),[⟨4,0,0,0,[],h.text,h.cut⟩])
  else if 32≤(c.toNat:Int)∧(c.toNat:Int)<127∧(h.text.length:Int)<most then some (({ h with text:=h.text++[c] },4),[])
  else none
 else none
def iu (p:cg) (c:UInt8) (q:cg) (cM:List gW):Prop:=
 mT q.dec∧(p.dec.jn=0→p.dec.l6=0→ ∀r,jo p.h p.state p.most c=some r→q.dec=p.dec∧q.h=r.1.1∧q.state=r.1.2∧cM=r.2)
theorem HL (w:World) (p:cg) (G:a8 w (c_ p)) (e:fG p) (x:Int) (M:0≤x∧x≤255):
 Calls prog 153 [gq p.g,.int .u8 x].toArray w (dH p 1 (λq cM=>q.dec=p.dec∧(p.inter.l.length=0→p.j_=false→x=93→q.h=nO∧q.state=4∧cM=[])) w):=by
 have hi:=e.inter
 refine bC func153 ntmps153 G ?_;refine dx ?_;refine aX 13 rfl (λj=>?_) (λj=>?_);have H:=a1 j
 refine cI ?_;refine b6 rfl (λaK=>?_) (λaK=>?_);simp only[b3] at aK
 refine bB ?_;refine aj (λI=>?_) (λI=>?_);refine ah ?_;refine aY (l0:=c_ p) ae rfl hJ rfl (λb c=>hX b p (c.bo ae) e _) (λz a=>?_);refine bp ?_;intro f d;exact dH.n a.g a.wf a.most ⟨a.dec,λ_ _ _=>⟨a.h,by have:=a.st;omega,rfl⟩⟩ d ae;refine al ?_;refine aj (λJ=>?_) (λJ=>?_);refine ah ?_;refine aY (l0:=c_ p) ae rfl hJ rfl (λb c=>hX b p (c.bo ae) e _) (λz a=>?_);refine bp ?_;intro f d;exact dH.n a.g a.wf a.most ⟨a.dec,λ_ _ _=>⟨a.h,by have:=a.st;omega,rfl⟩⟩ d ae;refine al ?_;refine aj (λK=>?_) (λK=>?_);refine ah ?_;refine aY (l0:=c_ p) ae rfl hJ rfl (λb c=>hX b p (c.bo ae) e _) (λz a=>?_);refine bp ?_;intro f d;exact dH.n a.g a.wf a.most ⟨a.dec,λ_ _ _=>⟨a.h,by have:=a.st;omega,rfl⟩⟩ d ae;refine aD ?_;refine aj (λk=>?_) (λk=>?_);have y:=k
 refine aq ?_;refine eA rfl ((b5 y)) ?_;refine ah ?_;refine aY (l0:=c_ p) ae rfl hJ rfl (λb c=>hX b p (c.bo ae) e _) (λz a=>?_);refine bp ?_;intro f d;exact dH.n a.g a.wf a.most ⟨a.dec,λ_ _ _=>⟨a.h,by have:=a.st;omega,rfl⟩⟩ d ae;have y:=k
 refine al ?_;refine aj (λm=>?_) (λm=>?_);have A:=m
 refine aq ?_;refine eA rfl ((b5 A)) ?_;refine ah ?_;refine aY (l0:=c_ p) ae rfl hJ rfl (λb c=>hX b p (c.bo ae) e _) (λz a=>?_);refine bp ?_;intro f d;exact dH.n a.g a.wf a.most ⟨a.dec,λ_ _ _=>⟨a.h,by have:=a.st;omega,rfl⟩⟩ d ae;have A:=m
 refine ax ?_;refine aj (λL=>?_) (λL=>?_);refine ah ?_;refine aY (l0:=c_ p) ae rfl hJ rfl (λb c=>hX b p (c.bo ae) e _) (λz a=>?_);refine bp ?_;intro f d;exact dH.n a.g a.wf a.most ⟨a.dec,λ_ _ _=>⟨a.h,by have:=a.st;omega,rfl⟩⟩ d ae;refine eM ?_;refine b6 rfl (λo=>?_) (λo=>?_);simp only[b3] at o
 refine aD ?_;refine jd underlying59 underlying5 underlying9 rfl rfl (λB i=>gV (i.has cu)) ?_;refine ar ?_;refine dG (E:=eP) ⟨_,_,_,_,⟨_,_,_,0,0,[]⟩,_,_,_⟩ gQ rfl rfl rfl rfl rfl (λC D F=>?_);refine al ?_;refine aY (l0:=c_ p) ae rfl hJ rfl (λb c=>hX b p (c.bo ae) e _) (λz a=>?_);refine aR ?_;intro f d;exact dH.z (es:=[eD 2 0 x 0 p.inter.l [] false]) a.g a.wf a.most (by simpa using ⟨rfl,by simp[eD];omega,by simp[eD],by dsimp only[eD];omega⟩) av ⟨a.dec,λr s t=>by omega⟩ d ae;simp only[b3] at o
 refine ax ?_;refine aY (l0:=c_ p) ae rfl hJ rfl (λb c=>hX b p (c.bo ae) e _) (λz a=>?_);refine aR ?_;intro f d;exact dH.n a.g a.wf a.most ⟨a.dec,λ_ _ _=>⟨a.h,by have:=a.st;omega,rfl⟩⟩ d ae;simp only[b3] at aK
 refine e4 ?_;refine b6 rfl (λu=>?_) (λu=>?_);simp only[b3] at u
 refine aD ?_;refine jd underlying59 underlying5 underlying9 rfl rfl (λB i=>gV (i.has cu)) ?_;refine ar ?_;refine dG (E:=eP) ⟨_,_,_,_,⟨_,_,_,0,0,[]⟩,_,_,_⟩ gQ rfl rfl rfl rfl rfl (λC D F=>?_);refine al ?_;refine aY (l0:=c_ p) ae rfl hJ rfl (λb c=>hX b p (c.bo ae) e _) (λz a=>?_);refine aR ?_;intro f d;exact dH.z (es:=[eD 2 0 x 0 p.inter.l [] false]) a.g a.wf a.most (by simpa using ⟨rfl,by simp[eD];omega,by simp[eD],by dsimp only[eD];omega⟩) av ⟨a.dec,λr s t=>by (simp_all;done)⟩ d ae;simp only[b3] at u
 refine ax ?_;refine aY (l0:=c_ p) ae rfl hJ rfl (λb c=>hX b p (c.bo ae) e _) (λz a=>?_);refine aR ?_;intro f d;exact dH.n a.g a.wf a.most ⟨a.dec,λr s t=>by (simp_all;done)⟩ d ae;have H:=bc j
 refine xf ?_;refine b6 rfl (λv=>?_) (λv=>?_);simp only[b3] at v
 refine aD ?_;refine jd underlying59 underlying5 underlying9 rfl rfl (λB i=>gV (i.has cu)) ?_;refine ar ?_;refine dG (E:=eP) ⟨_,_,_,_,⟨_,_,_,0,0,[]⟩,_,_,_⟩ gQ rfl rfl rfl rfl rfl (λC D F=>?_);refine al ?_;refine aY (l0:=c_ p) ae rfl hJ rfl (λb c=>hX b p (c.bo ae) e _) (λz a=>?_);refine aR ?_;intro f d;exact dH.z (es:=[eD 2 0 x 0 p.inter.l [] false]) a.g a.wf a.most (by simpa using ⟨rfl,by simp[eD];omega,by simp[eD],by dsimp only[eD];omega⟩) av ⟨a.dec,λr s t=>by omega⟩ d ae;simp only[b3] at v
 refine ax ?_;refine aY (l0:=c_ p) ae rfl hJ rfl (λb c=>hX b p (c.bo ae) e _) (λz a=>?_);refine aR ?_;intro f d;exact dH.n a.g a.wf a.most ⟨a.dec,λ_ _ _=>⟨a.h,by have:=a.st;omega,rfl⟩⟩ d ae
theorem HM (w:World) (p:cg) (i:a8 w (c_ p)) (f:fG p) (c:UInt8):
 Calls prog 157 [gq p.g,.int .u8 (c.toNat:Int)].toArray w (dH p 1 (λq cM=>q.dec=p.dec∧(p.inter.l.length=0→p.j_=false→(c.toNat:Int)=93→q.h=nO∧q.state=4∧cM=[])) w):=by
 refine bC func157 ntmps157 i ?_;refine bB ?_;refine aj (λj=>?_) (λj=>?_);refine al ?_;refine cE (λb d=>ro b p d f c) (λz a=>?_);refine aR ?_;intro k e;exact dH.n a.g a.wf a.most ⟨a.dec,λ_ _ m=>by omega⟩ e ae;refine al ?_;refine aY (l0:=c_ p) ae rfl Ew rfl (λb d=>HL b p (d.bo ae) f _ (qh _)) (λz a=>?_);refine ax ?_;intro k e;exact aN z ⟨a.g,a.wf,a.most,a.len,a.ok,a.R⟩ e
theorem HN (w:World) (p:cg) (k:a8 w (c_ p)) (b:fG p) (c:UInt8):
 Calls prog 158 [gq p.g,.int .u8 (c.toNat:Int)].toArray w (dH p 1 (λq _=>q.dec=p.dec) w):=by
 refine bC func158 ntmps158 k ?_;refine b_ ?_;refine aj (λl=>?_) (λl=>?_);refine al ?_;refine cE (λd f=>ro d p f b c) (λz a=>?_);refine bp ?_;intro i h;exact dH.n a.g a.wf a.most a.dec h ae;refine aD ?_;refine aj (λaK=>?_) (λaK=>?_);refine al ?_;refine cE (λd f=>SZ d p f b c) (λz a=>?_);refine bp ?_;intro i h;exact dH.n a.g a.wf a.most a.dec h ae;refine aR ?_;refine aj (λm=>?_) (λm=>?_);refine eM ?_;intro i h;exact dH.n (q:={ p with last:=c.toNat }) rfl ⟨b.head,b.inter,b.text,b.most,b.dec,b.ak.1,qh c⟩ rfl rfl h ae;refine eM ?_;refine b6 rfl (λj=>?_) (λj=>?_);simp only[b3] at j
 refine ah ?_;refine aY (l0:=c_ p) ae rfl Ex rfl (λd f=>HK d p (f.bo ae) b _ _ (qh _)) (λx o=>?_);refine dG (E:=eP) x gQ rfl rfl rfl rfl rfl (λr s t=>?_);refine al ?_;refine aY (l0:=c_ p) ae rfl hJ rfl (λd f=>hX d p (f.bo ae) b _) (λz a=>?_);refine aR ?_;intro i h;exact dH.w (e:=x) a.g a.wf a.most o aa a.dec h ae;simp only[b3] at j
 refine ax ?_;refine aY (l0:=c_ p) ae rfl hJ rfl (λd f=>hX d p (f.bo ae) b _) (λz a=>?_);refine aR ?_;intro i h;exact dH.n a.g a.wf a.most a.dec h ae
theorem o4 {h:fX} {most:Int} {c:UInt8} {r: (fX × Int) × List gW} (e:jo h 4 most c=some r):
 ((c.toNat:Int)=7∧r=((nO,0),[⟨4,0,0,0,[],h.text,h.cut⟩]))∨((c.toNat:Int)≠7∧32≤(c.toNat:Int)∧(c.toNat:Int)<127∧(h.text.length:Int)<most∧r=(({ h with text:=h.text++[c] },4),[])):=by
 unfold jo at e
 rw[ag aZ,ag aZ,ay rfl] at e
 split at e
 exact .inl ⟨bA,by simpa using e.symm⟩;split at e
 rename_i b a;exact .inr ⟨b,a.1,a.2.1,a.2.2,by simpa using e.symm⟩;cases e
theorem BH (w:World) (p:cg) (H:a8 w (c_ p)) (j:fG p) (c:UInt8):
 Calls prog 107 [gq p.g,.int .u8 (c.toNat:Int)].toArray w (dH p 1 (λq cM=>q.dec=p.dec∧ ∀r,p.state=4→jo p.h p.state p.most c=some r→q.h=r.1.1∧q.state=r.1.2∧cM=r.2) w):=by
 refine bC func107 ntmps107 H ?_;refine cI ?_;refine aX 12 rfl (λu=>?_) (λu=>?_);have I:=a1 u
 refine dx ?_;refine b6 rfl (λaK=>?_) (λaK=>?_);have J:=aK
 simp only[b3] at aK
 refine ah ?_;refine cE (λf i=>BB f p i j c) (λz a=>?_);refine aR ?_;intro k e;exact dH.n a.g a.wf a.most ⟨a.dec,λr d b=>by omega⟩ e ae;have J:=aK
 simp only[b3] at aK
 refine aR ?_;refine aj (λG=>?_) (λG=>?_);refine aR ?_;intro k e;exact dH.n rfl j rfl ⟨rfl,λr d b=>by exact absurd d G⟩ e ae;refine aD ?_;refine aj (λK=>?_) (λK=>?_);refine ah ?_;refine cE (λf i=>BG f p i j) (λx l=>?_);refine ar ?_;obtain⟨v,y,A,B⟩:=x;obtain⟨m,C,L⟩:=l.R;replace m:p=v:=m.symm
 subst m;have D:=l.wf
 refine ax ?_;refine aY (l0:=c_ p) ae rfl hJ rfl (λf i=>hX f p (i.bo ae) D _) (λz a=>?_);refine bB ?_;intro k e;exact aN (z,⟨y,A,B⟩) ⟨a.g,a.wf,a.most,l.len,l.ok,a.dec,λr d b=>by rw[d] at b;rcases o4 b with ⟨_,rfl⟩ | ⟨o,_⟩;exact⟨a.h,a.st,C d⟩;omega⟩ e;refine ax ?_;refine aX 40 rfl (λE=>?_) (λE=>?_);have M:=a1 E
 refine aL ?_;refine aj (λN=>?_) (λN=>?_);refine ah ?_;refine cE (λf i=>BB f p i j c) (λz a=>?_);refine aR ?_;intro k e;exact dH.n a.g a.wf a.most ⟨a.dec,λr d b=>by omega⟩ e ae;refine aR ?_;intro k e;exact dH.n rfl j rfl ⟨rfl,λr d b=>by (rw[d] at b;rcases o4 b with ⟨o,_⟩ | ⟨_,s,t,_,_⟩ <;> omega)⟩ e ae;have M:=bc E
 refine et ?_;intro k e;exact dH.n rfl j rfl ⟨rfl,λr d b=>by (rw[d] at b;rcases o4 b with ⟨o,_⟩ | ⟨_,s,t,_,_⟩ <;> omega)⟩ e ae;have I:=bc u
 refine hs ?_;refine aj (λO=>?_) (λO=>?_);refine aR ?_;intro k e;exact dH.n rfl j rfl ⟨rfl,λr d b=>by (rw[d] at b;rcases o4 b with ⟨o,_⟩ | ⟨_,s,t,_,_⟩ <;> omega)⟩ e ae;refine aD ?_;refine aj (λP=>?_) (λP=>?_);refine ah ?_;refine cE (λf i=>BG f p i j) (λx l=>?_);refine ar ?_;obtain⟨v,y,A,B⟩:=x;obtain⟨m,C,L⟩:=l.R;replace m:p=v:=m.symm
 subst m;have D:=l.wf
 refine ax ?_;refine aY (l0:=c_ p) ae rfl hJ rfl (λf i=>hX f p (i.bo ae) D _) (λz a=>?_);refine bB ?_;intro k e;exact aN (z,⟨y,A,B⟩) ⟨a.g,a.wf,a.most,l.len,l.ok,a.dec,λr d b=>by rw[d] at b;rcases o4 b with ⟨_,rfl⟩ | ⟨o,_⟩;exact⟨a.h,a.st,C d⟩;omega⟩ e;refine ax ?_;refine aX 40 rfl (λF=>?_) (λF=>?_);have Q:=a1 F
 refine aL ?_;refine aj (λS=>?_) (λS=>?_);refine ah ?_;refine cE (λf i=>BB f p i j c) (λz a=>?_);refine aR ?_;intro k e;exact dH.n a.g a.wf a.most ⟨a.dec,λr d b=>by (rw[d] at b;rcases o4 b with ⟨o,_⟩ | ⟨_,_,_,T,rfl⟩;omega;exact⟨by rw[a.h,yc,ag aa],by rw[a.st,d],rfl⟩)⟩ e ae;refine aR ?_;intro k e;exact dH.n rfl j rfl ⟨rfl,λr d b=>by (rw[d] at b;rcases o4 b with ⟨o,_⟩ | ⟨_,s,t,_,_⟩ <;> omega)⟩ e ae;have Q:=bc F
 refine et ?_;intro k e;exact dH.n rfl j rfl ⟨rfl,λr d b=>by (rw[d] at b;rcases o4 b with ⟨o,_⟩ | ⟨_,s,t,_,_⟩ <;> omega)⟩ e ae
end Go.Proofs.YtoghoobfpcadbaaGreatDoor.Mq
