/- part 21 of the proof -/
import Derived.Test.YtkeokgcdnfjaaaaGreatDoorQ20
namespace Go.Proofs.YtkeokgcdnfjaaaaGreatDoor.Mq
open Go Go.RowKit Go.Proofs Tryz
abbrev Bo (v:Value) (w:World):Ending→World→Prop:=λe w'=>e= .returned v∧Ext [] w w'
structure ij where
 A:Option Addr
 c:Nat
 l:List UInt8
abbrev ij.val (r:ij):Value:= .slice r.A r.l.length r.c
abbrev ij.au (r:ij):Chunk:=Mq.au 5 cy r.A r.c r.l
abbrev lU:ij:=⟨none,0,[]⟩
structure nI where
 n:Int
 jj:Int
 lV:Int
 lo:Int
 hi:Int
structure cb where
 g:Nat
 pre:Int
 head:ij
 inter:ij
 text:ij
 last:Int
 j3:Bool
 cut:Bool
 most:Int
 state:Int
 dec:nI
abbrev SC (p:cb):List Value:=[.int .u8 p.pre,p.head.val,p.inter.val,p.text.val,.int .u8 p.last,.bool p.j3,.bool p.cut,.int .i64 p.most,.int .i64 p.state,.int .i32 p.dec.n,.int .i64 p.dec.jj,.int .i64 p.dec.lV,.int .u8 p.dec.lo,.int .u8 p.dec.hi]
abbrev cb.an (p:cb):Chunk:=aD p.g (SC p) 215
abbrev c7 (p:cb):List Chunk:=[p.an,p.head.au,p.inter.au,p.text.au]
abbrev gi (g:Nat):Value:= .pointer (some ⟨g,0,none⟩)
abbrev Bp (g:Nat):Value:= .pointer (some ⟨g,9,none⟩)
abbrev hl (p:cb) (d:nI):cb:={ p with dec:=d }
def kC:bA Int:=⟨λr=>[.int .i32 r],1,λ_=>rfl,λ_=>aI.cons rfl aI.nil⟩
abbrev kD (i:Option Addr × Nat × List Int):Chunk:=au 21 kC i.1 i.2.1 i.2.2
abbrev Bq (i:Option Addr × Nat × List Int):Value:= .slice i.1 i.2.2.length i.2.1
theorem af.eO {α:Type} (e:TypeId) (E:bA α) {b:World} {S:List Nat} {cs:List Chunk} {w:World} (h:af b S cs w):af b S (au e E none 0 []::cs) w:=h.mZ (by exact World.ownsRow_nil _ _ _ _) rfl
structure mP (d:nI):Prop where
 jj:0≤d.jj∧d.jj≤3
 lV:0≤d.lV∧d.lV≤4 - d.jj
def Hw (k:Nat) (d:nI) (c:UInt8) (i:nI × Option Addr × Nat × List Int):Prop:=
 mP i.1∧i.2.2.2.length≤k∧(d.jj=0→c.toNat<128→i.1=d∧i.2.2.2=[(c.toNat:Int)])
def Hx (k:Nat) (p:cb) (c:UInt8) (w:World):Ending→World→Prop:=
 aP (λi:nI × Option Addr × Nat × List Int=>Bq i.2) [p.an] (λi=>[(hl p i.1).an,kD i.2]) (Hw k p.dec c) w
def kE (c:Int):Int:=if c<128 then 1 else if c<194∨244<c then 0 else if c<224 then 2 else if c<240 then 3 else 4
theorem SD (w:World) (c:Int):Calls prog 205 [.int .u8 c].toArray w (Bo (.int .i64 (kE c)) w):=by
 refine aW func205 ntmps205 ?_;refine b5 ?_;refine aj (λd=>?_) (λd=>?_);refine aJ ?_;intro b a;exact⟨by simp only[kE,Ending.returned.injEq,Value.int.injEq,true_and];omega,a.ext⟩;refine ay ?_;refine aV 9 rfl (λaH=>?_) (λaH=>?_);have e:=aY aH
 refine dB ?_;intro b a;exact⟨by simp only[kE,Ending.returned.injEq,Value.int.injEq,true_and];omega,a.ext⟩;have e:=a8 aH
 refine aK ?_;refine aj (λf=>?_) (λf=>?_);refine aJ ?_;intro b a;exact⟨by simp only[kE,Ending.returned.injEq,Value.int.injEq,true_and];omega,a.ext⟩;refine aC ?_;refine aj (λg=>?_) (λg=>?_);refine aJ ?_;intro b a;exact⟨by simp only[kE,Ending.returned.injEq,Value.int.injEq,true_and];omega,a.ext⟩;refine aC ?_;refine aj (λh=>?_) (λh=>?_);refine aJ ?_;intro b a;exact⟨by simp only[kE,Ending.returned.injEq,Value.int.injEq,true_and];omega,a.ext⟩;refine aR ?_;intro b a;exact⟨by simp only[kE,Ending.returned.injEq,Value.int.injEq,true_and];omega,a.ext⟩
def oX (c:Int):Int × Int:=if c=224 then (160,191) else if c=237 then (128,159) else if c=240 then (144,191) else if c=244 then (128,143) else (128,191)
theorem SE (w:World) (c:Int):Calls prog 206 [.int .u8 c].toArray w (Bo (.tuple #[.int .u8 (oX c).1,.int .u8 (oX c).2]) w):=by
 refine aW func206 ntmps206 ?_;refine eG ?_;refine aj (λd=>?_) (λd=>?_);refine aR ?_;intro b a;exact⟨by unfold oX;repeat (rw[ax bz]),a.ext⟩;refine al ?_;refine aj (λaH=>?_) (λaH=>?_);refine aR ?_;intro b a;exact⟨by unfold oX;repeat (first | rw[ax bz] | rw[ag bz]),a.ext⟩;refine al ?_;refine aj (λe=>?_) (λe=>?_);refine aR ?_;intro b a;exact⟨by unfold oX;repeat (first | rw[ax bz] | rw[ag bz]),a.ext⟩;refine al ?_;refine aj (λf=>?_) (λf=>?_);refine aR ?_;intro b a;exact⟨by unfold oX;repeat (first | rw[ax bz] | rw[ag bz]),a.ext⟩;refine bo ?_;intro b a;exact⟨by unfold oX;repeat (rw[ag bz]),a.ext⟩
theorem SF (w:World) (c sz:Int) (h:kE c=sz):Calls prog 205 [.int .u8 c].toArray w (Bo (.int .i64 sz) w):=by subst h;exact SD w c
theorem SG (c:Int):0≤kE c∧kE c≤4:=by unfold kE;omega
theorem Br (w:World) (p:cb) (j:bb w [p.an]) (ak:mP p.dec) (n:p.dec.jj=0) (o:p.dec.lV≤4) (c:UInt8):
 Calls prog 150 [Bp p.g,.int .u8 (c.toNat:Int)].toArray w (Hx 1 p c w):=by
 obtain⟨sz,b⟩ : ∃k,kE (c.toNat:Int)=k:=⟨_,rfl⟩;have l:=SG (c.toNat:Int)
 rw[b] at l
 have e:=c.toNat_lt
 refine bI func150 ntmps150 j ?_;refine aK ?_;refine ao rfl Ni rfl (λd e=>SF d _ sz b) ?_;refine dB ?_;refine aj (λf=>?_) (λf=>?_);refine ar ?_;refine dx (E:=kC) _ oq rfl rfl rfl rfl rfl (λq r s=>?_);refine aC ?_;intro i a
 (refine aP.bP (p.dec,_,_,[_]) ?_ rfl (a.aw ae);exact⟨ak,by simp,λ_ h=>absurd f (by unfold kE at b;omega)⟩)
 refine al ?_;refine aj (λaH=>?_) (λaH=>?_);refine ah ?_;refine dl rfl rfl underlying5 underlying21 rfl ?_;refine dx (E:=kC) _ oq rfl rfl rfl rfl rfl (λt u v=>?_);refine aC ?_;intro i a
 (refine aP.bP (p.dec,_,_,[_]) ?_ rfl (a.aw ae);exact⟨ak,by simp,λ_ h=>⟨rfl,by rw[uy aa aa]⟩⟩)
 refine aC ?_;refine dl rfl rfl underlying5 underlying21 rfl ?_;refine ar ?_;refine Hs rfl rfl rfl aa (λx=>?_);refine gI rfl rfl rfl rfl ?_;refine Hq rfl rfl rfl (λm=>?_);refine jc ?_;refine ao rfl Nj rfl (λd e=>SE d _) ?_;refine eT ?_;intro i a
 (refine aP.bP (⟨m,sz - 1,1,(oX c.toNat).1,(oX c.toNat).2⟩,none,0,[]) ?_ rfl ((a.eO 21 kC).aw ae);exact⟨⟨by dsimp only;omega,by dsimp only;omega⟩,by simp,λ_ h=>absurd aH (by unfold kE at b;omega)⟩)
theorem Hy (w:World) (p:cb) (s:bb w [p.an]) (ak:mP p.dec) (c:UInt8):
 Calls prog 106 [Bp p.g,.int .u8 (c.toNat:Int)].toArray w (Hx 2 p c w):=by
 have F:=ak.jj
 have G:=ak.lV
 refine bI func106 ntmps106 s ?_;refine sv ?_;refine aj (λd=>?_) (λd=>?_);refine aS ?_;refine aZ (l0:=[p.an]) ae rfl zH rfl (λe f=>Br e p (f.bp ae) ak bz aa c) (λz a=>?_);refine al ?_;intro i b;exact aN z ⟨a.1,by have:=a.2.1;omega,a.2.2⟩ b;refine bw ?_;refine aV 21 rfl (λaH=>?_) (λaH=>?_);have t:=aY aH
 refine jc ?_;refine dx (E:=kC) _ oq rfl rfl rfl rfl rfl (λu v x=>?_);refine ar ?_;refine aZ (l0:=[(hl p ⟨p.dec.n,0,0,p.dec.lo,p.dec.hi⟩).an]) ae rfl zH rfl (λe f=>Br e (hl p ⟨p.dec.n,0,0,p.dec.lo,p.dec.hi⟩) (f.bp ae) ⟨by simp,by simp⟩ rfl av c) (λz a=>?_);obtain⟨⟨j,k,l,m,o⟩,y,A,B⟩:=z;have q:=a.2.1
 dsimp only at q
 refine er (E:=kC) oq rfl rfl rfl cv (λ_ _=>eo) b4 b4 (λH I=>?_);refine al ?_;intro i b
 (refine aP.bP (⟨j,k,l,m,o⟩,_,_,_) ?_ rfl (b.aw ae);exact⟨a.1,by simp;omega,λh=>absurd h d⟩)
 have t:=a8 aH
 refine cE ?_;refine aj (λC=>?_) (λC=>?_);refine b5 ?_;refine dx (E:=kC) _ oq rfl rfl rfl rfl rfl (λu v x=>?_);refine ar ?_;refine aZ (l0:=[(hl p ⟨p.dec.n,0,0,p.dec.lo,p.dec.hi⟩).an]) ae rfl zH rfl (λe f=>Br e (hl p ⟨p.dec.n,0,0,p.dec.lo,p.dec.hi⟩) (f.bp ae) ⟨by simp,by simp⟩ rfl av c) (λz a=>?_);obtain⟨⟨j,k,l,m,o⟩,y,A,B⟩:=z;have q:=a.2.1
 dsimp only at q
 refine er (E:=kC) oq rfl rfl rfl cv (λ_ _=>eo) b4 b4 (λJ K=>?_);refine al ?_;intro i b
 (refine aP.bP (⟨j,k,l,m,o⟩,_,_,_) ?_ rfl (b.aw ae);exact⟨a.1,by simp;omega,λh=>absurd h d⟩)
 refine aJ ?_;refine Hs rfl rfl rfl a1 (λL=>?_);refine aq ?_;refine Hq rfl rfl rfl (λM=>?_);refine dl rfl rfl underlying5 underlying21 rfl ?_;refine Hr rfl rfl rfl (λr=>?_);refine Pb ?_;refine aj (λD=>?_) (λD=>?_);refine aK ?_;intro i b
 (refine aP.bP (⟨r,p.dec.jj - 1,p.dec.lV+1,128,191⟩,none,0,[]) ?_ rfl ((b.eO 21 kC).aw ae);exact⟨⟨by dsimp only;omega,by dsimp only;omega⟩,by simp,λh=>absurd h d⟩)
 refine dB ?_;refine dx (E:=kC) _ oq rfl rfl rfl rfl rfl (λN O P=>?_);refine ay ?_;intro i b
 (refine aP.bP (⟨r,p.dec.jj - 1,0,128,191⟩,_,_,[_]) ?_ rfl (b.aw ae);exact⟨⟨by dsimp only;omega,by dsimp only;omega⟩,by simp,λh=>absurd h d⟩)
theorem Bs (w:World) (p:cb) (c:bb w [p.an]) (ak:mP p.dec):
 Calls prog 103 [Bp p.g].toArray w (aP (λi:nI × Option Addr × Nat × List Int=>Bq i.2) [p.an] (λi=>[(hl p i.1).an,kD i.2]) (λi=>mP i.1∧i.2.2.2.length≤1∧i.1.jj≤p.dec.jj∧(p.dec.lV=0→i.1=p.dec∧i.2.2.2=[])) w):=by
 have d:=ak.jj
 have f:=ak.lV
 refine bI func103 ntmps103 c ?_;refine jc ?_;refine aj (λb=>?_) (λb=>?_);refine aK ?_;intro e a
 (refine aP.bP (p.dec,none,0,[]) ?_ rfl ((a.eO 21 kC).aw ae);exact⟨ak,by simp,mU _,λ_=>⟨rfl,rfl⟩⟩)
 refine bw ?_;refine dx (E:=kC) _ oq rfl rfl rfl rfl rfl (λj k l=>?_);refine ay ?_;intro e a
 (refine aP.bP (⟨0,0,0,0,0⟩,_,_,[_]) ?_ rfl (a.aw ae);exact⟨⟨by simp,by simp⟩,by simp,d.1,λh=>absurd h b⟩)
def cb.h (p:cb):fQ:=⟨p.pre,p.head.l,p.inter.l,p.text.l,p.last,p.j3,p.cut⟩
structure fD (p:cb):Prop where
 head:p.head.l.length≤256
 inter:p.inter.l.length≤2
 text: (p.text.l.length:Int)≤p.most
 most:1≤p.most∧p.most≤65536
 dec:mP p.dec
 ak: (0≤p.pre∧p.pre≤255)∧0≤p.last∧p.last≤255
theorem qb (c:UInt8):0≤(c.toNat:Int)∧(c.toNat:Int)≤255:=by have:=c.toNat_lt;omega
theorem Hz (r:Int):0≤IntKind.u8.wrap r∧IntKind.u8.wrap r≤255:=by simp[IntKind.wrap,IntKind.bits,IntKind.signed];omega
structure Pa (p:cb) (h:fQ) (st:Int) (q:cb):Prop where
 g:q.g=p.g
 wf:fD q
 h:q.h=h
 st:q.state=st
 most:q.most=p.most
 dec:q.dec=p.dec
def x0 (p:cb) (h:fQ) (st:Int) (w:World):Ending→World→Prop:=aP (λ_:cb=> .tuple #[]) (c7 p) c7 (Pa p h st) w
def SH (p:cb) (st:Int) (w:World):Ending→World→Prop:=aP (λ_:cb=> .tuple #[]) (c7 p) c7 (λz=>Pa p z.h st z) w
theorem Pa.any {p q:cb} {h:fQ} {st:Int} (k:Pa p h st q):Pa p q.h st q:=⟨k.g,k.wf,rfl,k.st,k.most,k.dec⟩
theorem af.Bt {b:World} {S:List Nat} {cs cs':List Chunk} {c:Chunk} {w:World} (h:af b S cs w) (a:aA cs [c] cs'):af b S [c,lU.au,lU.au,lU.au] w:=by
 have d:=(((h.aw a).eO 5 cy).eO 5 cy).eO 5 cy
 exact d.aw ae
theorem lk (w:World) (p:cb) (b:bb w (c7 p)) (a:fD p):
 Calls prog 297 [gi p.g].toArray w (x0 p Bn p.state w):=by
 refine bI func297 ntmps297 b ?_;refine aC ?_;intro d c;exact aP.bP { p with pre:=0,head:=lU,inter:=lU,text:=lU,last:=0,j3:=true,cut:=false } ⟨rfl,⟨by simp,by simp,by have:=a.most;simp;omega,a.most,a.dec,by simp⟩,rfl,rfl,rfl,rfl⟩ rfl (c.Bt ae)
theorem rh (w:World) (p:cb) (i:bb w (c7 p)) (a:fD p) (c:UInt8):
 Calls prog 207 [gi p.g,.int .u8 (c.toNat:Int)].toArray w (x0 p (xZ p.h c) p.state w):=by
 have hi:=a.inter
 refine bI func207 ntmps207 i ?_;refine bo ?_;refine aj (λj=>?_) (λj=>?_);have k:xZ p.h c=Bn:=ax (by show p.inter.l.length=2;omega)
 refine ar ?_;refine cI (λm n=>lk m p n a) (λz d=>?_);refine ah ?_;have o:z.j3=true:=aX fQ.j3 d.h
 have t:=d.wf.inter
 rw[k,←d.g];refine aK ?_;refine b2 rfl (λe=>?_) (λe=>?_);simp only[bU] at e
 refine aC ?_;refine dx (E:=cy) _ fi rfl rfl rfl rfl rfl (λq r s=>?_);refine er (E:=cy) fi rfl rfl rfl bi (λ_ _=>k6) b4 b4 (λu v=>?_);refine ay ?_;intro f b;exact Bool.noConfusion (o.symm.trans e);simp only[bU] at e
 refine ar ?_;intro f b;exact aN z d b;refine bo ?_;refine b2 rfl (λaH=>?_) (λaH=>?_);simp only[bU] at aH
 refine aC ?_;refine dx (E:=cy) _ fi rfl rfl rfl rfl rfl (λq r s=>?_);refine er (E:=cy) fi rfl rfl rfl bi (λ_ _=>k6) b4 b4 (λx y=>?_);refine ay ?_;intro f b;exact aP.bP { p with inter:=⟨_,_,p.inter.l++[c]⟩ } ⟨rfl,⟨a.head,by simp;omega,a.text,a.most,a.dec,a.ak⟩,by rw[xZ,ag (by show ¬p.inter.l.length=2;omega),ag (by show ¬p.j3=true;simp[*])];rfl,rfl,rfl,rfl⟩ rfl (b.aw ae);simp only[bU] at aH
 refine ar ?_;intro f b;exact aN p ⟨rfl,a,by rw[xZ,ag (by show ¬p.inter.l.length=2;omega),ax bz],rfl,rfl,rfl⟩ b
theorem SI (w:World) (p:cb) (B:bb w (c7 p)) (a:fD p) (c:UInt8):
 Calls prog 208 [gi p.g,.int .u8 (c.toNat:Int)].toArray w (SH p p.state w):=by
 have hi:=a.head
 refine bI func208 ntmps208 B ?_;refine aR ?_;refine b2 rfl (λC=>?_) (λC=>?_);refine ah ?_;intro h b;exact aN p ⟨rfl,a,rfl,rfl,rfl,rfl⟩ b;refine ay ?_;refine aV 22 rfl (λaH=>?_) (λaH=>?_);have D:=aY aH
 refine bw ?_;refine aV 29 rfl (λi=>?_) (λi=>?_);have F:=aY i
 refine b5 ?_;refine aV 37 rfl (λj=>?_) (λj=>?_);have G:=aY j
 refine dB ?_;refine aj (λH=>?_) (λH=>?_);refine aJ ?_;intro h b;exact aN { p with pre:=c.toNat } ⟨rfl,⟨a.head,a.inter,a.text,a.most,a.dec,qb c,a.ak.2⟩,rfl,rfl,rfl,rfl⟩ b;refine ay ?_;refine aV 52 rfl (λk=>?_) (λk=>?_);have I:=aY k
 refine gN ?_;refine cI (λd e=>lk d p e a) (λz f=>?_);refine ah ?_;intro h b;exact aN z f.any b;have I:=a8 k
 refine b5 ?_;refine aV 60 rfl (λm=>?_) (λm=>?_);have J:=aY m
 refine bH ?_;refine cI (λd e=>lk d p e a) (λz f=>?_);refine ah ?_;intro h b;exact aN z f.any b;have J:=a8 m
 refine dB ?_;refine aj (λK=>?_) (λK=>?_);refine ar ?_;refine cI (λd e=>lk d p e a) (λz f=>?_);refine ah ?_;intro h b;exact aN z f.any b;refine aC ?_;refine dx (E:=cy) _ fi rfl rfl rfl rfl rfl (λn o q=>?_);refine er (E:=cy) fi rfl rfl rfl bi (λ_ _=>eo) aa aa (λU V=>?_);refine al ?_;intro h b;exact aP.bP { p with head:=⟨_,_,p.head.l++[c]⟩ } ⟨rfl,⟨by simp;omega,a.inter,a.text,a.most,a.dec,a.ak⟩,rfl,rfl,rfl,rfl⟩ rfl (b.aw ae);have G:=a8 j
 refine dB ?_;refine aV 52 rfl (λr=>?_) (λr=>?_);have L:=aY r
 refine gN ?_;refine cI (λd e=>lk d p e a) (λz f=>?_);refine ah ?_;intro h b;exact aN z f.any b;have L:=a8 r
 refine b5 ?_;refine aV 60 rfl (λs=>?_) (λs=>?_);have M:=aY s
 refine bH ?_;refine cI (λd e=>lk d p e a) (λz f=>?_);refine ah ?_;intro h b;exact aN z f.any b;have M:=a8 s
 refine dB ?_;refine aj (λN=>?_) (λN=>?_);refine ar ?_;refine cI (λd e=>lk d p e a) (λz f=>?_);refine ah ?_;intro h b;exact aN z f.any b;refine aC ?_;refine dx (E:=cy) _ fi rfl rfl rfl rfl rfl (λn o q=>?_);refine er (E:=cy) fi rfl rfl rfl bi (λ_ _=>eo) aa aa (λy A=>?_);refine al ?_;intro h b;exact aP.bP { p with head:=⟨_,_,p.head.l++[c]⟩ } ⟨rfl,⟨by simp;omega,a.inter,a.text,a.most,a.dec,a.ak⟩,rfl,rfl,rfl,rfl⟩ rfl (b.aw ae);have F:=a8 i
 refine jc ?_;refine aV 52 rfl (λt=>?_) (λt=>?_);have O:=aY t
 refine gN ?_;refine cI (λd e=>lk d p e a) (λz f=>?_);refine ah ?_;intro h b;exact aN z f.any b;have O:=a8 t
 refine b5 ?_;refine aV 60 rfl (λu=>?_) (λu=>?_);have P:=aY u
 refine bH ?_;refine cI (λd e=>lk d p e a) (λz f=>?_);refine ah ?_;intro h b;exact aN z f.any b;have P:=a8 u
 refine dB ?_;refine aj (λQ=>?_) (λQ=>?_);refine ar ?_;refine cI (λd e=>lk d p e a) (λz f=>?_);refine ah ?_;intro h b;exact aN z f.any b;refine aC ?_;refine dx (E:=cy) _ fi rfl rfl rfl rfl rfl (λn o q=>?_);refine er (E:=cy) fi rfl rfl rfl bi (λ_ _=>eo) aa aa (λy A=>?_);refine al ?_;intro h b;exact aP.bP { p with head:=⟨_,_,p.head.l++[c]⟩ } ⟨rfl,⟨by simp;omega,a.inter,a.text,a.most,a.dec,a.ak⟩,rfl,rfl,rfl,rfl⟩ rfl (b.aw ae);have D:=a8 aH
 refine Ah ?_;refine aV 52 rfl (λv=>?_) (λv=>?_);have R:=aY v
 refine gN ?_;refine cI (λd e=>lk d p e a) (λz f=>?_);refine ah ?_;intro h b;exact aN z f.any b;have R:=a8 v
 refine b5 ?_;refine aV 60 rfl (λx=>?_) (λx=>?_);have S:=aY x
 refine bH ?_;refine cI (λd e=>lk d p e a) (λz f=>?_);refine ah ?_;intro h b;exact aN z f.any b;have S:=a8 x
 refine dB ?_;refine aj (λT=>?_) (λT=>?_);refine ar ?_;refine cI (λd e=>lk d p e a) (λz f=>?_);refine ah ?_;intro h b;exact aN z f.any b;refine aC ?_;refine dx (E:=cy) _ fi rfl rfl rfl rfl rfl (λn o q=>?_);refine er (E:=cy) fi rfl rfl rfl bi (λ_ _=>eo) b4 b4 (λy A=>?_);refine al ?_;intro h b;exact aP.bP { p with head:=⟨_,_,p.head.l++[c]⟩ } ⟨rfl,⟨by simp;omega,a.inter,a.text,a.most,a.dec,a.ak⟩,rfl,rfl,rfl,rfl⟩ rfl (b.aw ae)
def vf (p:cb):cb:={ p with pre:=0,head:=lU,inter:=lU,text:=lU,last:=0,j3:=false,cut:=false }
theorem hP (w:World) (p:cb) (b:bb w (c7 p)) (a:fD p) (st:Int):
 Calls prog 104 [gi p.g,.int .i64 st].toArray w (x0 p nH st w):=by
 refine bI func104 ntmps104 b ?_;refine bH ?_;intro d c;exact aP.bP { vf p with state:=st } ⟨rfl,⟨by simp[vf],by simp[vf],by have:=a.most;simp[vf];omega,a.most,a.dec,by simp[vf]⟩,rfl,rfl,rfl,rfl⟩ rfl (c.Bt ae)
def x1 (h:fQ) (most:Int) (c:UInt8):fQ:=if most≤h.text.length then { h with cut:=true } else { h with text:=h.text++[c] }
theorem Bu (w:World) (p:cb) (e:bb w (c7 p)) (a:fD p) (c:UInt8):
 Calls prog 151 [gi p.g,.int .u8 (c.toNat:Int)].toArray w (x0 p (x1 p.h p.most c) p.state w):=by
 have hi:=a.text
 have i:=a.most
 refine bI func151 ntmps151 e ?_;refine ar ?_;refine bG [0,1,2,3,4,5,6,7,8,9,10] 0 [[]] ?_;refine b5 ?_;refine aj (λb=>?_) (λb=>?_);refine bw ?_;intro f d;exact aN { p with cut:=true } ⟨rfl,⟨a.head,a.inter,a.text,a.most,a.dec,a.ak⟩,by rw[x1,ax (by exact b)];rfl,rfl,rfl,rfl⟩ d;refine aR ?_;refine dx (E:=cy) _ fi rfl rfl rfl rfl rfl (λj k m=>?_);refine er (E:=cy) fi rfl rfl rfl bi (λ_ _=>nj) b4 b4 (λn o=>?_);refine al ?_;intro f d;exact aP.bP { p with text:=⟨_,_,p.text.l++[c]⟩ } ⟨rfl,⟨a.head,a.inter,by simp;omega,a.most,a.dec,a.ak⟩,by rw[x1,ag (by exact b)];rfl,rfl,rfl,rfl⟩ rfl (d.aw ae)
theorem Rd.loc {α:Type} {E:bA α} {w w':World} {F:Nat→Prop} {A:Option Addr} {n c:Nat} {l:List α} (h:Rd E w F A n c l) (d: ∀k,F k→w'.heap[k]? = w.heap[k]?):Rd E w' F A n c l:=by
 refine⟨h.len,h.cap,h.max,λe=>?_⟩;obtain⟨bX,f,b,g⟩:=h.cells e;refine⟨bX,f,b,λk a j u i m=>?_⟩;have o:=g k a j u i m
 rw[World.cell?_of_block (w:=w) (w':=w') (by rw[block_add,block_add];exact d _ b)];exact o
theorem d8.loc {w w':World} {F:Nat→Prop} {A:Option Addr} {n c:Nat} {gs:List (List Int)} (h:cr.d8 w F A n c gs) (a: ∀k,F k→w'.heap[k]? = w.heap[k]?):cr.d8 w' F A n c gs:=by
 obtain⟨b,d,e,f⟩:=h;exact⟨b,Rd.loc d a,e,λk s g i j=>Rd.loc (f k s g i j) a⟩
structure kF where
 A:Option Addr
 n:Nat
 c:Nat
 lo:Nat
 hi:Nat
 gs:List (List Int)
abbrev kF.val (x:kF):Value:= .slice x.A x.n x.c
abbrev qc:kF:=⟨none,0,0,0,0,[]⟩
def kF.aF (x:kF):Chunk:=rg x.lo x.hi (λw=>cr.d8 w (λk=>x.lo≤k∧k<x.hi) x.A x.n x.c x.gs) (λ_ _ b h=>d8.loc h (λk a=>b k a.1 a.2))
structure oY (x:kF):Prop where
 n:x.gs.length≤1000
 g: ∀g∈x.gs,g.length≤1000
theorem HA (w:World):qc.aF.pred w:=⟨by simp,cr.d8.nil w _⟩
theorem HC:qc.aF.ce=[]:=rfl
theorem Bv:oY qc:=⟨by simp,by simp⟩
theorem SJ (w:World) (s:List UInt8) (b:s.length≤1000000):
 Calls prog 204 [.string (bs s)].toArray w (fb (λi:kF × Bool=> .tuple #[i.1.val,.bool i.2]) (λi=>i.1.aF) (λi=>oY i.1) w):=by
 refine (cr.Se w s b).mono ?_;intro e w' h;unfold cr.xW at h
 split at h
 obtain⟨A,n,c,rfl,a,d⟩:=h;refine⟨(⟨A,n,c,w.heap.size,w'.heap.size,cr.va s⟩,true),⟨?_,?_⟩,rfl,a,⟨λ_=>cd _,d.hA⟩,?_,xX _ _ _ _⟩;show (cr.va s).length≤1000
 have:=cr.u_ 59 32 s
 simp[cr.va]
 omega
 intro g f;obtain⟨x,_,rfl⟩:=dF.1 f;have:=cr.u_ 58 8 x
 simp[cr.jZ]
 omega
 intro k j;exact (n8.1 j).1;obtain⟨rfl,a⟩:=h;exact⟨(qc,false),Bv,rfl,a,HA w',by rw[HC];simp,by rw[HC];simp⟩
structure dR where
 kind:Int
 r:Int
 byte:Int
 pre:Int
 nums:kF
 inter:List UInt8
 text:List UInt8
 cut:Bool
abbrev dR.enc (e:dR):List Value:=[.int .i64 e.kind,.int .i32 e.r,.int .u8 e.byte,.int .u8 e.pre,e.nums.val,.string (bs e.inter),.string (bs e.text),.bool e.cut]
def eP:bA dR:=⟨dR.enc,8,λ_=>rfl,λ_=>by repeat (first | exact aI.nil | refine aI.cons rfl ?_)⟩
structure gd where
 A:Option Addr
 c:Nat
 l:List dR
abbrev gd.val (r:gd):Value:= .slice r.A r.l.length r.c
abbrev gd.au (r:gd):Chunk:=Mq.au 170 eP r.A r.c r.l
abbrev gd.cc (r:gd):Chunk:=aT (r.l.map (λe=>e.nums.aF))
structure gU where
 kind:Int
 r:Int
 byte:Int
 pre:Int
 inter:List UInt8
 text:List UInt8
 cut:Bool
def dR.abs (e:dR):gU:=⟨e.kind,e.r,e.byte,e.pre,e.inter,e.text,e.cut⟩
structure lW (e:dR):Prop where
 nums:oY e.nums
 inter:e.inter.length≤1000
 text:e.text.length≤100000
 u8: (0≤e.byte∧e.byte≤255)∧0≤e.pre∧e.pre≤255
abbrev s_ (p:cb) (x:gd):List Chunk:=[p.an,p.head.au,p.inter.au,p.text.au,x.au,x.cc]
structure ta (p:cb) (k:Nat) (R:cb→List gU→Prop) (i:cb × gd):Prop where
 g:i.1.g=p.g
 wf:fD i.1
 most:i.1.most=p.most
 len:i.2.l.length≤k
 ok: ∀e∈i.2.l,lW e
 R:R i.1 (i.2.l.map dR.abs)
def dy (p:cb) (k:Nat) (R:cb→List gU→Prop) (w:World):Ending→World→Prop:=
 aP (λi:cb × gd=>i.2.val) (c7 p) (λi=>s_ i.1 i.2) (ta p k R) w
theorem af.Bw {b:World} {S:List Nat} {cs:List Chunk} {w:World} (h:af b S cs w) (es:List dR) (f: ∀e∈es,e.nums=qc):af b S (aT (es.map (λe=>e.nums.aF))::cs) w:=by
 refine h.mZ (λc a=>?_) ?_;obtain⟨e,d,rfl⟩:=dF.1 a;rw[f e d];exact HA w;show aB (es.map (λe=>e.nums.aF))=[]
 rw[aB,List.flatMap_eq_nil_iff];intro c a;obtain⟨e,d,rfl⟩:=dF.1 a;rw[f e d];rfl
theorem af.Bx {b w:World} {S:List Nat} {cs l1 l2:List Chunk} (h:af b S (aT l1::aT l2::cs) w):af b S (aT (l1++l2)::cs) w:=by
 have a:af b S (aT l2::(l1++cs)) w:=h.k4.perm n_
 have c:af b S ((l1++l2)++cs) w:=a.k4.perm (by
  rw[←e0];exact List.perm_append_comm.append_right cs)
 exact c.close'
def By (e:dR):Prop:=e.nums=qc∧e.inter.length≤1000∧e.text.length≤100000∧(0≤e.byte∧e.byte≤255)∧0≤e.pre∧e.pre≤255
theorem By.ok {e:dR} (h:By e):lW e:=⟨h.1▸Bv,h.2.1,h.2.2.1,h.2.2.2⟩
theorem dy.z {p q:cb} {k:Nat} {R:cb→List gU→Prop} {w a:World} {cs cs':List Chunk} {A:Option Addr} {c:Nat} {es:List dR} (d:q.g=p.g) (f:fD q) (i:q.most=p.most) (b: ∀e∈es,By e) (j:es.length≤k) (l:R q (es.map dR.abs))
 (m:af w (aB (c7 p)) cs a) (n:aA cs [q.an,q.head.au,q.inter.au,q.text.au,au 170 eP A c es] cs'):dy p k R w (.returned (.slice A es.length c)) a:=
 aP.bP (q,⟨A,c,es⟩) ⟨d,f,i,j,λe h=>(b e h).ok,l⟩ rfl (((m.aw n).Bw es (λe h=>(b e h).1)).aw ae)
theorem dy.n {p q:cb} {k:Nat} {R:cb→List gU→Prop} {w a:World} {cs cs':List Chunk} (b:q.g=p.g) (c:fD q) (d:q.most=p.most) (e:R q [])
 (f:af w (aB (c7 p)) cs a) (h:aA cs [q.an,q.head.au,q.inter.au,q.text.au] cs'):dy p k R w (.returned (.slice none 0 0)) a:=
 dy.z (es:=[]) b c d av av e ((f.aw h).eO 170 eP) ae
theorem dy.w {p q:cb} {k:Nat} {R:cb→List gU→Prop} {w a:World} {cs cs':List Chunk} {A:Option Addr} {c:Nat} {e:dR} (b:q.g=p.g) (d:fD q) (f:q.most=p.most) (h:lW e) (i:1≤k) (j:R q [e.abs])
 (m:af w (aB (c7 p)) cs a) (n:aA cs [q.an,q.head.au,q.inter.au,q.text.au,au 170 eP A c [e],e.nums.aF] cs'):dy p k R w (.returned (.slice A 1 c)) a:=
 aP.bP (q,⟨A,c,[e]⟩) ⟨b,d,f,by simpa using i,by simpa using h,j⟩ rfl (((m.aw n).close (l:=[e.nums.aF]) ae).aw ae)
theorem HD (w:World) (p:cb) (f:bb w (c7 p)) (a:fD p) (kind last:Int) (h:0≤last∧last≤255):
 Calls prog 149 [gi p.g,.int .i64 kind,.int .u8 last].toArray w (aP (λe:dR=> .agg e.enc.toArray) (c7 p) (λe=>[p.an,p.head.au,p.inter.au,p.text.au,e.nums.aF]) (λe=>lW e) w):=by
 refine bI func149 ntmps149 f ?_;refine ah ?_;intro n o q;refine aJ ?_;refine i_ underlying62 underlying5 underlying9 rfl rfl (λd b=>gT (b.has cp)) ?_;refine gg rfl Nh rfl (λi r=>SJ i p.head.l (by have:=a.head;omega)) (λz j=>?_);refine aK ?_;refine bG [0,1,2,3,4,5,6,7,8,9,10,11,12,13,14,15,16,17,18,19,20,21,22,23,24,25] 1 [[(26,true,[])]] ?_;refine bH ?_;refine aL rfl (λk c=>(i_ underlying62 underlying5 underlying9 rfl rfl (λd b=>by subst b;exact gT (c.has iz)) aG)) ?_;refine ay ?_;refine aL rfl (λk c=>(i_ underlying62 underlying5 underlying9 rfl rfl (λd b=>by subst b;exact gT (c.has kp)) aG)) ?_;refine cE ?_;intro s m;exact aN ⟨kind,0,last,p.pre,z.1,p.inter.l,p.text.l,p.cut⟩ ⟨j,by have:=a.inter;simp;omega,by have:=a.text;have:=a.most;simp;omega,h,a.ak.1⟩ m
abbrev eB (kind r byte pre:Int) (inter text:List UInt8) (cut:Bool):dR:=⟨kind,r,byte,pre,qc,inter,text,cut⟩
theorem SK {p:cb} (h:fD p):p.text.l.length≤100000:=by have:=h.text;have:=h.most;omega
theorem Bz (w:World) (p:cb) (k:bb w (c7 p)) (b:fD p):
 Calls prog 105 [gi p.g].toArray w (dy p 1 (λq cH=>q=p∧(p.state=4→cH=[⟨4,0,0,0,[],p.text.l,p.cut⟩])∧(p.state≠4→p.state≠3→cH=[])) w):=by
 refine bI func105 ntmps105 k ?_;refine ef ?_;refine aj (λc=>?_) (λc=>?_);refine aq ?_;refine bG [0,1,2,3,4,5,6,7,8,9,10,11] 1 [[(12,false,[13])]] ?_;refine ay ?_;refine aL rfl (λx m=>(i_ underlying62 underlying5 underlying9 rfl rfl (λy o=>by subst o;exact gT (m.has hD)) aG)) ?_;refine aK ?_;refine dx (E:=eP) ⟨_,_,_,_,⟨_,_,_,0,0,[]⟩,_,_,_⟩ gM rfl rfl rfl rfl rfl (λA B C=>?_);refine bY (λ_=>True) (λ_ h=> .inr (h.rem bv.head)) (λ_ h=>aU) ?_;refine aK ?_;intro f a;exact dy.z (es:=[eB 4 0 0 0 [] p.text.l p.cut]) rfl b rfl (by simpa using ⟨rfl,by simp[eB],SK b,by dsimp only[eB];omega⟩) av ⟨rfl,λ_=>rfl,λh=>absurd c h⟩ a ae;refine aK ?_;refine aV 28 rfl (λaH=>?_) (λaH=>?_);have j:=aY aH
 refine b5 ?_;refine aV 36 rfl (λi=>?_) (λi=>?_);have r:=aY i
 refine dB ?_;refine b2 rfl (λd=>?_) (λd=>?_);have s:=d
 simp only[bU] at d
 refine aK ?_;refine aZ (l0:=c7 p) ae rfl Eo rfl (λt u=>HD t p (u.bp ae) b _ _ b.ak.2) (λz v=>?_);refine dx (E:=eP) z gM rfl rfl rfl rfl rfl (λD F G=>?_);refine aC ?_;intro f a;exact dy.w (e:=z) rfl b rfl v aa ⟨rfl,λh=>absurd h c,λ_ h=>absurd j h⟩ a ae;have s:=d
 simp only[bU] at d
 refine aR ?_;intro f a;exact dy.n rfl b rfl ⟨rfl,λh=>absurd h c,λ_ _=>rfl⟩ a ae;have r:=a8 i
 refine gN ?_;intro f a;exact dy.n rfl b rfl ⟨rfl,λh=>absurd h c,λ_ _=>rfl⟩ a ae;have j:=a8 aH
 refine w7 ?_;intro f a;exact dy.n rfl b rfl ⟨rfl,λh=>absurd h c,λ_ _=>rfl⟩ a ae
def jk (h:fQ) (st most:Int) (c:UInt8):Option ((fQ × Int) × List gU):=
 if st=0 then
  if (c.toNat:Int)=27 then some ((nH,1),[])
  else if (c.toNat:Int)=24∨(c.toNat:Int)=26∨127≤(c.toNat:Int) then none
  else if (c.toNat:Int)<32 then some ((h,0),[⟨1,0,c.toNat,0,[],[],false⟩])
  else some ((h,0),[⟨0,c.toNat,0,0,[],[],false⟩])
 else if st=1 then (if (c.toNat:Int)=93∧h.inter.length=0∧h.j3=false then some ((nH,4),[]) else none)
 else if st=4 then
  if (c.toNat:Int)=7 then some ((nH,0),[⟨4,0,0,0,[],h.text,h.cut⟩])
  else if 32≤(c.toNat:Int)∧(c.toNat:Int)<127∧(h.text.length:Int)<most then some (({ h with text:=h.text++[c] },4),[])
  else none
 else none
def ik (p:cb) (c:UInt8) (q:cb) (cH:List gU):Prop:=
 mP q.dec∧(p.dec.jj=0→p.dec.lV=0→ ∀r,jk p.h p.state p.most c=some r→q.dec=p.dec∧q.h=r.1.1∧q.state=r.1.2∧cH=r.2)
theorem HE (w:World) (p:cb) (G:bb w (c7 p)) (e:fD p) (x:Int) (M:0≤x∧x≤255):
 Calls prog 148 [gi p.g,.int .u8 x].toArray w (dy p 1 (λq cH=>q.dec=p.dec∧(p.inter.l.length=0→p.j3=false→x=93→q.h=nH∧q.state=4∧cH=[])) w):=by
 have hi:=e.inter
 refine bI func148 ntmps148 G ?_;refine dB ?_;refine aV 13 rfl (λj=>?_) (λj=>?_);have H:=aY j
 refine cE ?_;refine b2 rfl (λaH=>?_) (λaH=>?_);simp only[bU] at aH
 refine bw ?_;refine aj (λI=>?_) (λI=>?_);refine ah ?_;refine aZ (l0:=c7 p) ae rfl hB rfl (λb c=>hP b p (c.bp ae) e _) (λz a=>?_);refine bo ?_;intro f d;exact dy.n a.g a.wf a.most ⟨a.dec,λ_ _ _=>⟨a.h,by have:=a.st;omega,rfl⟩⟩ d ae;refine al ?_;refine aj (λJ=>?_) (λJ=>?_);refine ah ?_;refine aZ (l0:=c7 p) ae rfl hB rfl (λb c=>hP b p (c.bp ae) e _) (λz a=>?_);refine bo ?_;intro f d;exact dy.n a.g a.wf a.most ⟨a.dec,λ_ _ _=>⟨a.h,by have:=a.st;omega,rfl⟩⟩ d ae;refine al ?_;refine aj (λK=>?_) (λK=>?_);refine ah ?_;refine aZ (l0:=c7 p) ae rfl hB rfl (λb c=>hP b p (c.bp ae) e _) (λz a=>?_);refine bo ?_;intro f d;exact dy.n a.g a.wf a.most ⟨a.dec,λ_ _ _=>⟨a.h,by have:=a.st;omega,rfl⟩⟩ d ae;refine aC ?_;refine aj (λk=>?_) (λk=>?_);have y:=k
 refine ar ?_;refine ev rfl ((b1 y)) ?_;refine ah ?_;refine aZ (l0:=c7 p) ae rfl hB rfl (λb c=>hP b p (c.bp ae) e _) (λz a=>?_);refine bo ?_;intro f d;exact dy.n a.g a.wf a.most ⟨a.dec,λ_ _ _=>⟨a.h,by have:=a.st;omega,rfl⟩⟩ d ae;have y:=k
 refine al ?_;refine aj (λm=>?_) (λm=>?_);have A:=m
 refine ar ?_;refine ev rfl ((b1 A)) ?_;refine ah ?_;refine aZ (l0:=c7 p) ae rfl hB rfl (λb c=>hP b p (c.bp ae) e _) (λz a=>?_);refine bo ?_;intro f d;exact dy.n a.g a.wf a.most ⟨a.dec,λ_ _ _=>⟨a.h,by have:=a.st;omega,rfl⟩⟩ d ae;have A:=m
 refine ay ?_;refine aj (λL=>?_) (λL=>?_);refine ah ?_;refine aZ (l0:=c7 p) ae rfl hB rfl (λb c=>hP b p (c.bp ae) e _) (λz a=>?_);refine bo ?_;intro f d;exact dy.n a.g a.wf a.most ⟨a.dec,λ_ _ _=>⟨a.h,by have:=a.st;omega,rfl⟩⟩ d ae;refine eG ?_;refine b2 rfl (λo=>?_) (λo=>?_);simp only[bU] at o
 refine aC ?_;refine i_ underlying62 underlying5 underlying9 rfl rfl (λB i=>gT (i.has cp)) ?_;refine aq ?_;refine dx (E:=eP) ⟨_,_,_,_,⟨_,_,_,0,0,[]⟩,_,_,_⟩ gM rfl rfl rfl rfl rfl (λC D F=>?_);refine al ?_;refine aZ (l0:=c7 p) ae rfl hB rfl (λb c=>hP b p (c.bp ae) e _) (λz a=>?_);refine aR ?_;intro f d;exact dy.z (es:=[eB 2 0 x 0 p.inter.l [] false]) a.g a.wf a.most (by simpa using ⟨rfl,by simp[eB];omega,by simp[eB],by dsimp only[eB];omega⟩) av ⟨a.dec,λr s t=>by omega⟩ d ae;simp only[bU] at o
 refine ay ?_;refine aZ (l0:=c7 p) ae rfl hB rfl (λb c=>hP b p (c.bp ae) e _) (λz a=>?_);refine aR ?_;intro f d;exact dy.n a.g a.wf a.most ⟨a.dec,λ_ _ _=>⟨a.h,by have:=a.st;omega,rfl⟩⟩ d ae;simp only[bU] at aH
 refine eT ?_;refine b2 rfl (λu=>?_) (λu=>?_);simp only[bU] at u
 refine aC ?_;refine i_ underlying62 underlying5 underlying9 rfl rfl (λB i=>gT (i.has cp)) ?_;refine aq ?_;refine dx (E:=eP) ⟨_,_,_,_,⟨_,_,_,0,0,[]⟩,_,_,_⟩ gM rfl rfl rfl rfl rfl (λC D F=>?_);refine al ?_;refine aZ (l0:=c7 p) ae rfl hB rfl (λb c=>hP b p (c.bp ae) e _) (λz a=>?_);refine aR ?_;intro f d;exact dy.z (es:=[eB 2 0 x 0 p.inter.l [] false]) a.g a.wf a.most (by simpa using ⟨rfl,by simp[eB];omega,by simp[eB],by dsimp only[eB];omega⟩) av ⟨a.dec,λr s t=>by (simp_all;done)⟩ d ae;simp only[bU] at u
 refine ay ?_;refine aZ (l0:=c7 p) ae rfl hB rfl (λb c=>hP b p (c.bp ae) e _) (λz a=>?_);refine aR ?_;intro f d;exact dy.n a.g a.wf a.most ⟨a.dec,λr s t=>by (simp_all;done)⟩ d ae;have H:=a8 j
 refine w6 ?_;refine b2 rfl (λv=>?_) (λv=>?_);simp only[bU] at v
 refine aC ?_;refine i_ underlying62 underlying5 underlying9 rfl rfl (λB i=>gT (i.has cp)) ?_;refine aq ?_;refine dx (E:=eP) ⟨_,_,_,_,⟨_,_,_,0,0,[]⟩,_,_,_⟩ gM rfl rfl rfl rfl rfl (λC D F=>?_);refine al ?_;refine aZ (l0:=c7 p) ae rfl hB rfl (λb c=>hP b p (c.bp ae) e _) (λz a=>?_);refine aR ?_;intro f d;exact dy.z (es:=[eB 2 0 x 0 p.inter.l [] false]) a.g a.wf a.most (by simpa using ⟨rfl,by simp[eB];omega,by simp[eB],by dsimp only[eB];omega⟩) av ⟨a.dec,λr s t=>by omega⟩ d ae;simp only[bU] at v
 refine ay ?_;refine aZ (l0:=c7 p) ae rfl hB rfl (λb c=>hP b p (c.bp ae) e _) (λz a=>?_);refine aR ?_;intro f d;exact dy.n a.g a.wf a.most ⟨a.dec,λ_ _ _=>⟨a.h,by have:=a.st;omega,rfl⟩⟩ d ae
theorem HF (w:World) (p:cb) (i:bb w (c7 p)) (f:fD p) (c:UInt8):
 Calls prog 152 [gi p.g,.int .u8 (c.toNat:Int)].toArray w (dy p 1 (λq cH=>q.dec=p.dec∧(p.inter.l.length=0→p.j3=false→(c.toNat:Int)=93→q.h=nH∧q.state=4∧cH=[])) w):=by
 refine bI func152 ntmps152 i ?_;refine bw ?_;refine aj (λj=>?_) (λj=>?_);refine al ?_;refine cI (λb d=>rh b p d f c) (λz a=>?_);refine aR ?_;intro k e;exact dy.n a.g a.wf a.most ⟨a.dec,λ_ _ m=>by omega⟩ e ae;refine al ?_;refine aZ (l0:=c7 p) ae rfl En rfl (λb d=>HE b p (d.bp ae) f _ (qb _)) (λz a=>?_);refine ay ?_;intro k e;exact aN z ⟨a.g,a.wf,a.most,a.len,a.ok,a.R⟩ e
theorem HG (w:World) (p:cb) (k:bb w (c7 p)) (b:fD p) (c:UInt8):
 Calls prog 153 [gi p.g,.int .u8 (c.toNat:Int)].toArray w (dy p 1 (λq _=>q.dec=p.dec) w):=by
 refine bI func153 ntmps153 k ?_;refine b5 ?_;refine aj (λl=>?_) (λl=>?_);refine al ?_;refine cI (λd f=>rh d p f b c) (λz a=>?_);refine bo ?_;intro i h;exact dy.n a.g a.wf a.most a.dec h ae;refine aC ?_;refine aj (λaH=>?_) (λaH=>?_);refine al ?_;refine cI (λd f=>SI d p f b c) (λz a=>?_);refine bo ?_;intro i h;exact dy.n a.g a.wf a.most a.dec h ae;refine aR ?_;refine aj (λm=>?_) (λm=>?_);refine eG ?_;intro i h;exact dy.n (q:={ p with last:=c.toNat }) rfl ⟨b.head,b.inter,b.text,b.most,b.dec,b.ak.1,qb c⟩ rfl rfl h ae;refine eG ?_;refine b2 rfl (λj=>?_) (λj=>?_);simp only[bU] at j
 refine ah ?_;refine aZ (l0:=c7 p) ae rfl Eo rfl (λd f=>HD d p (f.bp ae) b _ _ (qb _)) (λx o=>?_);refine dx (E:=eP) x gM rfl rfl rfl rfl rfl (λr s t=>?_);refine al ?_;refine aZ (l0:=c7 p) ae rfl hB rfl (λd f=>hP d p (f.bp ae) b _) (λz a=>?_);refine aR ?_;intro i h;exact dy.w (e:=x) a.g a.wf a.most o aa a.dec h ae;simp only[bU] at j
 refine ay ?_;refine aZ (l0:=c7 p) ae rfl hB rfl (λd f=>hP d p (f.bp ae) b _) (λz a=>?_);refine aR ?_;intro i h;exact dy.n a.g a.wf a.most a.dec h ae
theorem oZ {h:fQ} {most:Int} {c:UInt8} {r: (fQ × Int) × List gU} (e:jk h 4 most c=some r):
 ((c.toNat:Int)=7∧r=((nH,0),[⟨4,0,0,0,[],h.text,h.cut⟩]))∨((c.toNat:Int)≠7∧32≤(c.toNat:Int)∧(c.toNat:Int)<127∧(h.text.length:Int)<most∧r=(({ h with text:=h.text++[c] },4),[])):=by
 unfold jk at e
 rw[ag a1,ag a1,ax rfl] at e
 split at e
 exact .inl ⟨bz,by simpa using e.symm⟩;split at e
 rename_i b a;exact .inr ⟨b,a.1,a.2.1,a.2.2,by simpa using e.symm⟩;cases e
theorem BA (w:World) (p:cb) (H:bb w (c7 p)) (j:fD p) (c:UInt8):
 Calls prog 107 [gi p.g,.int .u8 (c.toNat:Int)].toArray w (dy p 1 (λq cH=>q.dec=p.dec∧ ∀r,p.state=4→jk p.h p.state p.most c=some r→q.h=r.1.1∧q.state=r.1.2∧cH=r.2) w):=by
 refine bI func107 ntmps107 H ?_;refine cE ?_;refine aV 12 rfl (λu=>?_) (λu=>?_);have I:=aY u
 refine dB ?_;refine b2 rfl (λaH=>?_) (λaH=>?_);have J:=aH
 simp only[bU] at aH
 refine ah ?_;refine cI (λf i=>Bu f p i j c) (λz a=>?_);refine aR ?_;intro k e;exact dy.n a.g a.wf a.most ⟨a.dec,λr d b=>by omega⟩ e ae;have J:=aH
 simp only[bU] at aH
 refine aR ?_;refine aj (λG=>?_) (λG=>?_);refine aR ?_;intro k e;exact dy.n rfl j rfl ⟨rfl,λr d b=>by exact absurd d G⟩ e ae;refine aC ?_;refine aj (λK=>?_) (λK=>?_);refine ah ?_;refine cI (λf i=>Bz f p i j) (λx l=>?_);refine aq ?_;obtain⟨v,y,A,B⟩:=x;obtain⟨m,C,L⟩:=l.R;replace m:p=v:=m.symm
 subst m;have D:=l.wf
 refine ay ?_;refine aZ (l0:=c7 p) ae rfl hB rfl (λf i=>hP f p (i.bp ae) D _) (λz a=>?_);refine bw ?_;intro k e;exact aN (z,⟨y,A,B⟩) ⟨a.g,a.wf,a.most,l.len,l.ok,a.dec,λr d b=>by rw[d] at b;rcases oZ b with ⟨_,rfl⟩ | ⟨o,_⟩;exact⟨a.h,a.st,C d⟩;omega⟩ e;refine ay ?_;refine aV 40 rfl (λE=>?_) (λE=>?_);have M:=aY E
 refine aK ?_;refine aj (λN=>?_) (λN=>?_);refine ah ?_;refine cI (λf i=>Bu f p i j c) (λz a=>?_);refine aR ?_;intro k e;exact dy.n a.g a.wf a.most ⟨a.dec,λr d b=>by omega⟩ e ae;refine aR ?_;intro k e;exact dy.n rfl j rfl ⟨rfl,λr d b=>by (rw[d] at b;rcases oZ b with ⟨o,_⟩ | ⟨_,s,t,_,_⟩ <;> omega)⟩ e ae;have M:=a8 E
 refine ef ?_;intro k e;exact dy.n rfl j rfl ⟨rfl,λr d b=>by (rw[d] at b;rcases oZ b with ⟨o,_⟩ | ⟨_,s,t,_,_⟩ <;> omega)⟩ e ae;have I:=a8 u
 refine gN ?_;refine aj (λO=>?_) (λO=>?_);refine aR ?_;intro k e;exact dy.n rfl j rfl ⟨rfl,λr d b=>by (rw[d] at b;rcases oZ b with ⟨o,_⟩ | ⟨_,s,t,_,_⟩ <;> omega)⟩ e ae;refine aC ?_;refine aj (λP=>?_) (λP=>?_);refine ah ?_;refine cI (λf i=>Bz f p i j) (λx l=>?_);refine aq ?_;obtain⟨v,y,A,B⟩:=x;obtain⟨m,C,L⟩:=l.R;replace m:p=v:=m.symm
 subst m;have D:=l.wf
 refine ay ?_;refine aZ (l0:=c7 p) ae rfl hB rfl (λf i=>hP f p (i.bp ae) D _) (λz a=>?_);refine bw ?_;intro k e;exact aN (z,⟨y,A,B⟩) ⟨a.g,a.wf,a.most,l.len,l.ok,a.dec,λr d b=>by rw[d] at b;rcases oZ b with ⟨_,rfl⟩ | ⟨o,_⟩;exact⟨a.h,a.st,C d⟩;omega⟩ e;refine ay ?_;refine aV 40 rfl (λF=>?_) (λF=>?_);have Q:=aY F
 refine aK ?_;refine aj (λS=>?_) (λS=>?_);refine ah ?_;refine cI (λf i=>Bu f p i j c) (λz a=>?_);refine aR ?_;intro k e;exact dy.n a.g a.wf a.most ⟨a.dec,λr d b=>by (rw[d] at b;rcases oZ b with ⟨o,_⟩ | ⟨_,_,_,T,rfl⟩;omega;exact⟨by rw[a.h,x1,ag aa],by rw[a.st,d],rfl⟩)⟩ e ae;refine aR ?_;intro k e;exact dy.n rfl j rfl ⟨rfl,λr d b=>by (rw[d] at b;rcases oZ b with ⟨o,_⟩ | ⟨_,s,t,_,_⟩ <;> omega)⟩ e ae;have Q:=a8 F
 refine ef ?_;intro k e;exact dy.n rfl j rfl ⟨rfl,λr d b=>by (rw[d] at b;rcases oZ b with ⟨o,_⟩ | ⟨_,s,t,_,_⟩ <;> omega)⟩ e ae
end Go.Proofs.YtkeokgcdnfjaaaaGreatDoor.Mq
