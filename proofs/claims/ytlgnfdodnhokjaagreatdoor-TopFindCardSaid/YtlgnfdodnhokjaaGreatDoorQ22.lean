/- part 22 of the proof -/
import Derived.Test.YtlgnfdodnhokjaaGreatDoorQ21
namespace Go.Proofs.YtlgnfdodnhokjaaGreatDoor.Mq
open Go Go.RowKit Go.Proofs Tryz
abbrev BL (v:Value) (w:World):Ending→World→Prop:=λe w'=>e= .returned v∧Ext [] w w'
structure is where
 A:Option Addr
 c:Nat
 l:List UInt8
abbrev is.val (r:is):Value:= .slice r.A r.l.length r.c
abbrev is.au (r:is):Chunk:=Mq.au 5 cz r.A r.c r.l
abbrev l_:is:=⟨none,0,[]⟩
structure nZ where
 n:Int
 js:Int
 ma:Int
 lo:Int
 hi:Int
structure ce where
 g:Nat
 pre:Int
 head:is
 inter:is
 text:is
 last:Int
 ke:Bool
 cut:Bool
 most:Int
 state:Int
 dec:nZ
abbrev Tz (p:ce):List Value:=[.int .u8 p.pre,p.head.val,p.inter.val,p.text.val,.int .u8 p.last,.bool p.ke,.bool p.cut,.int .i64 p.most,.int .i64 p.state,.int .i32 p.dec.n,.int .i64 p.dec.js,.int .i64 p.dec.ma,.int .u8 p.dec.lo,.int .u8 p.dec.hi]
abbrev ce.an (p:ce):Chunk:=aD p.g (Tz p) 230
abbrev c_ (p:ce):List Chunk:=[p.an,p.head.au,p.inter.au,p.text.au]
abbrev gt (g:Nat):Value:= .pointer (some ⟨g,0,none⟩)
abbrev BM (g:Nat):Value:= .pointer (some ⟨g,9,none⟩)
abbrev hx (p:ce) (d:nZ):ce:={ p with dec:=d }
def kN:bA Int:=⟨λr=>[.int .i32 r],1,λ_=>rfl,λ_=>aI.cons rfl aI.nil⟩
abbrev kO (i:Option Addr × Nat × List Int):Chunk:=au 21 kN i.1 i.2.1 i.2.2
abbrev BN (i:Option Addr × Nat × List Int):Value:= .slice i.1 i.2.2.length i.2.1
theorem af.eU {α:Type} (e:TypeId) (E:bA α) {b:World} {S:List Nat} {cs:List Chunk} {w:World} (h:af b S cs w):af b S (au e E none 0 []::cs) w:=h.nj (by exact World.ownsRow_nil _ _ _ _) rfl
structure m9 (d:nZ):Prop where
 js:0≤d.js∧d.js≤3
 ma:0≤d.ma∧d.ma≤4 - d.js
def Ii (k:Nat) (d:nZ) (c:UInt8) (i:nZ × Option Addr × Nat × List Int):Prop:=
 m9 i.1∧i.2.2.2.length≤k∧(d.js=0→c.toNat<128→i.1=d∧i.2.2.2=[(c.toNat:Int)])
def Ij (k:Nat) (p:ce) (c:UInt8) (w:World):Ending→World→Prop:=
 aP (λi:nZ × Option Addr × Nat × List Int=>BN i.2) [p.an] (λi=>[(hx p i.1).an,kO i.2]) (Ii k p.dec c) w
def kP (c:Int):Int:=if c<128 then 1 else if c<194∨244<c then 0 else if c<224 then 2 else if c<240 then 3 else 4
theorem TA (w:World) (c:Int):Calls prog 210 [.int .u8 c].toArray w (BL (.int .i64 (kP c)) w):=by
 refine aV func210 ntmps210 ?_;refine b7 ?_;refine aj (λd=>?_) (λd=>?_);refine aJ ?_;intro b a;exact⟨by simp only[kP,Ending.returned.injEq,Value.int.injEq,true_and];omega,a.ext⟩;refine ay ?_;refine aW 9 rfl (λaH=>?_) (λaH=>?_);have e:=aX aH
 refine dB ?_;intro b a;exact⟨by simp only[kP,Ending.returned.injEq,Value.int.injEq,true_and];omega,a.ext⟩;have e:=bd aH
 refine aK ?_;refine aj (λf=>?_) (λf=>?_);refine aJ ?_;intro b a;exact⟨by simp only[kP,Ending.returned.injEq,Value.int.injEq,true_and];omega,a.ext⟩;refine aC ?_;refine aj (λg=>?_) (λg=>?_);refine aJ ?_;intro b a;exact⟨by simp only[kP,Ending.returned.injEq,Value.int.injEq,true_and];omega,a.ext⟩;refine aC ?_;refine aj (λh=>?_) (λh=>?_);refine aJ ?_;intro b a;exact⟨by simp only[kP,Ending.returned.injEq,Value.int.injEq,true_and];omega,a.ext⟩;refine aQ ?_;intro b a;exact⟨by simp only[kP,Ending.returned.injEq,Value.int.injEq,true_and];omega,a.ext⟩
def pe (c:Int):Int × Int:=if c=224 then (160,191) else if c=237 then (128,159) else if c=240 then (144,191) else if c=244 then (128,143) else (128,191)
theorem TB (w:World) (c:Int):Calls prog 211 [.int .u8 c].toArray w (BL (.tuple #[.int .u8 (pe c).1,.int .u8 (pe c).2]) w):=by
 refine aV func211 ntmps211 ?_;refine eL ?_;refine aj (λd=>?_) (λd=>?_);refine aQ ?_;intro b a;exact⟨by unfold pe;repeat (rw[aw bv]),a.ext⟩;refine al ?_;refine aj (λaH=>?_) (λaH=>?_);refine aQ ?_;intro b a;exact⟨by unfold pe;repeat (first | rw[aw bv] | rw[ag bv]),a.ext⟩;refine al ?_;refine aj (λe=>?_) (λe=>?_);refine aQ ?_;intro b a;exact⟨by unfold pe;repeat (first | rw[aw bv] | rw[ag bv]),a.ext⟩;refine al ?_;refine aj (λf=>?_) (λf=>?_);refine aQ ?_;intro b a;exact⟨by unfold pe;repeat (first | rw[aw bv] | rw[ag bv]),a.ext⟩;refine bp ?_;intro b a;exact⟨by unfold pe;repeat (rw[ag bv]),a.ext⟩
theorem TC (w:World) (c sz:Int) (h:kP c=sz):Calls prog 210 [.int .u8 c].toArray w (BL (.int .i64 sz) w):=by subst h;exact TA w c
theorem TD (c:Int):0≤kP c∧kP c≤4:=by unfold kP;omega
theorem BO (w:World) (p:ce) (j:a8 w [p.an]) (ak:m9 p.dec) (n:p.dec.js=0) (o:p.dec.ma≤4) (c:UInt8):
 Calls prog 159 [BM p.g,.int .u8 (c.toNat:Int)].toArray w (Ij 1 p c w):=by
 obtain⟨sz,b⟩ : ∃k,kP (c.toNat:Int)=k:=⟨_,rfl⟩;have l:=TD (c.toNat:Int)
 rw[b] at l
 have e:=c.toNat_lt
 refine bI func159 ntmps159 j ?_;refine aK ?_;refine ao rfl N7 rfl (λd e=>TC d _ sz b) ?_;refine dB ?_;refine aj (λf=>?_) (λf=>?_);refine aq ?_;refine dy (E:=kN) _ oK rfl rfl rfl rfl rfl (λq r s=>?_);refine aC ?_;intro i a
 (refine aP.bQ (p.dec,_,_,[_]) ?_ rfl (a.ax ae);exact⟨ak,by simp,λ_ h=>absurd f (by unfold kP at b;omega)⟩)
 refine al ?_;refine aj (λaH=>?_) (λaH=>?_);refine ah ?_;refine dn rfl rfl underlying5 underlying21 rfl ?_;refine dy (E:=kN) _ oK rfl rfl rfl rfl rfl (λt u v=>?_);refine aC ?_;intro i a
 (refine aP.bQ (p.dec,_,_,[_]) ?_ rfl (a.ax ae);exact⟨ak,by simp,λ_ h=>⟨rfl,by rw[uS aa aa]⟩⟩)
 refine aC ?_;refine dn rfl rfl underlying5 underlying21 rfl ?_;refine aq ?_;refine Ie rfl rfl rfl aa (λx=>?_);refine gS rfl rfl rfl rfl ?_;refine Ic rfl rfl rfl (λm=>?_);refine jF ?_;refine ao rfl N8 rfl (λd e=>TB d _) ?_;refine eR ?_;intro i a
 (refine aP.bQ (⟨m,sz - 1,1,(pe c.toNat).1,(pe c.toNat).2⟩,none,0,[]) ?_ rfl ((a.eU 21 kN).ax ae);exact⟨⟨by dsimp only;omega,by dsimp only;omega⟩,by simp,λ_ h=>absurd aH (by unfold kP at b;omega)⟩)
theorem Ik (w:World) (p:ce) (s:a8 w [p.an]) (ak:m9 p.dec) (c:UInt8):
 Calls prog 116 [BM p.g,.int .u8 (c.toNat:Int)].toArray w (Ij 2 p c w):=by
 have F:=ak.js
 have G:=ak.ma
 refine bI func116 ntmps116 s ?_;refine sQ ?_;refine aj (λd=>?_) (λd=>?_);refine aS ?_;refine a6 (l0:=[p.an]) ae rfl z6 rfl (λe f=>BO e p (f.bo ae) ak bv aa c) (λz a=>?_);refine al ?_;intro i b;exact aN z ⟨a.1,by have:=a.2.1;omega,a.2.2⟩ b;refine bx ?_;refine aW 21 rfl (λaH=>?_) (λaH=>?_);have t:=aX aH
 refine jF ?_;refine dy (E:=kN) _ oK rfl rfl rfl rfl rfl (λu v x=>?_);refine aq ?_;refine a6 (l0:=[(hx p ⟨p.dec.n,0,0,p.dec.lo,p.dec.hi⟩).an]) ae rfl z6 rfl (λe f=>BO e (hx p ⟨p.dec.n,0,0,p.dec.lo,p.dec.hi⟩) (f.bo ae) ⟨by simp,by simp⟩ rfl av c) (λz a=>?_);obtain⟨⟨j,k,l,m,o⟩,y,A,B⟩:=z;have q:=a.2.1
 dsimp only at q
 refine eC (E:=kN) oK rfl rfl rfl cw (λ_ _=>ew) b4 b4 (λH I=>?_);refine al ?_;intro i b
 (refine aP.bQ (⟨j,k,l,m,o⟩,_,_,_) ?_ rfl (b.ax ae);exact⟨a.1,by simp;omega,λh=>absurd h d⟩)
 have t:=bd aH
 refine cF ?_;refine aj (λC=>?_) (λC=>?_);refine b7 ?_;refine dy (E:=kN) _ oK rfl rfl rfl rfl rfl (λu v x=>?_);refine aq ?_;refine a6 (l0:=[(hx p ⟨p.dec.n,0,0,p.dec.lo,p.dec.hi⟩).an]) ae rfl z6 rfl (λe f=>BO e (hx p ⟨p.dec.n,0,0,p.dec.lo,p.dec.hi⟩) (f.bo ae) ⟨by simp,by simp⟩ rfl av c) (λz a=>?_);obtain⟨⟨j,k,l,m,o⟩,y,A,B⟩:=z;have q:=a.2.1
 dsimp only at q
 refine eC (E:=kN) oK rfl rfl rfl cw (λ_ _=>ew) b4 b4 (λJ K=>?_);refine al ?_;intro i b
 (refine aP.bQ (⟨j,k,l,m,o⟩,_,_,_) ?_ rfl (b.ax ae);exact⟨a.1,by simp;omega,λh=>absurd h d⟩)
 refine aJ ?_;refine Ie rfl rfl rfl aZ (λL=>?_);refine ar ?_;refine Ic rfl rfl rfl (λM=>?_);refine dn rfl rfl underlying5 underlying21 rfl ?_;refine Id rfl rfl rfl (λr=>?_);refine PZ ?_;refine aj (λD=>?_) (λD=>?_);refine aK ?_;intro i b
 (refine aP.bQ (⟨r,p.dec.js - 1,p.dec.ma+1,128,191⟩,none,0,[]) ?_ rfl ((b.eU 21 kN).ax ae);exact⟨⟨by dsimp only;omega,by dsimp only;omega⟩,by simp,λh=>absurd h d⟩)
 refine dB ?_;refine dy (E:=kN) _ oK rfl rfl rfl rfl rfl (λN O P=>?_);refine ay ?_;intro i b
 (refine aP.bQ (⟨r,p.dec.js - 1,0,128,191⟩,_,_,[_]) ?_ rfl (b.ax ae);exact⟨⟨by dsimp only;omega,by dsimp only;omega⟩,by simp,λh=>absurd h d⟩)
theorem BP (w:World) (p:ce) (c:a8 w [p.an]) (ak:m9 p.dec):
 Calls prog 113 [BM p.g].toArray w (aP (λi:nZ × Option Addr × Nat × List Int=>BN i.2) [p.an] (λi=>[(hx p i.1).an,kO i.2]) (λi=>m9 i.1∧i.2.2.2.length≤1∧i.1.js≤p.dec.js∧(p.dec.ma=0→i.1=p.dec∧i.2.2.2=[])) w):=by
 have d:=ak.js
 have f:=ak.ma
 refine bI func113 ntmps113 c ?_;refine jF ?_;refine aj (λb=>?_) (λb=>?_);refine aK ?_;intro e a
 (refine aP.bQ (p.dec,none,0,[]) ?_ rfl ((a.eU 21 kN).ax ae);exact⟨ak,by simp,iB _,λ_=>⟨rfl,rfl⟩⟩)
 refine bx ?_;refine dy (E:=kN) _ oK rfl rfl rfl rfl rfl (λj k l=>?_);refine ay ?_;intro e a
 (refine aP.bQ (⟨0,0,0,0,0⟩,_,_,[_]) ?_ rfl (a.ax ae);exact⟨⟨by simp,by simp⟩,by simp,d.1,λh=>absurd h b⟩)
def ce.h (p:ce):ga:=⟨p.pre,p.head.l,p.inter.l,p.text.l,p.last,p.ke,p.cut⟩
structure fN (p:ce):Prop where
 head:p.head.l.length≤256
 inter:p.inter.l.length≤2
 text: (p.text.l.length:Int)≤p.most
 most:1≤p.most∧p.most≤65536
 dec:m9 p.dec
 ak: (0≤p.pre∧p.pre≤255)∧0≤p.last∧p.last≤255
theorem qn (c:UInt8):0≤(c.toNat:Int)∧(c.toNat:Int)≤255:=by have:=c.toNat_lt;omega
theorem Il (r:Int):0≤IntKind.u8.wrap r∧IntKind.u8.wrap r≤255:=by simp[IntKind.wrap,IntKind.bits,IntKind.signed];omega
structure Pa (p:ce) (h:ga) (st:Int) (q:ce):Prop where
 g:q.g=p.g
 wf:fN q
 h:q.h=h
 st:q.state=st
 most:q.most=p.most
 dec:q.dec=p.dec
def yn (p:ce) (h:ga) (st:Int) (w:World):Ending→World→Prop:=aP (λ_:ce=> .tuple #[]) (c_ p) c_ (Pa p h st) w
def TE (p:ce) (st:Int) (w:World):Ending→World→Prop:=aP (λ_:ce=> .tuple #[]) (c_ p) c_ (λz=>Pa p z.h st z) w
theorem Pa.any {p q:ce} {h:ga} {st:Int} (k:Pa p h st q):Pa p q.h st q:=⟨k.g,k.wf,rfl,k.st,k.most,k.dec⟩
theorem af.BQ {b:World} {S:List Nat} {cs cs':List Chunk} {c:Chunk} {w:World} (h:af b S cs w) (a:aA cs [c] cs'):af b S [c,l_.au,l_.au,l_.au] w:=by
 have d:=(((h.ax a).eU 5 cz).eU 5 cz).eU 5 cz
 exact d.ax ae
theorem lu (w:World) (p:ce) (b:a8 w (c_ p)) (a:fN p):
 Calls prog 301 [gt p.g].toArray w (yn p BK p.state w):=by
 refine bI func301 ntmps301 b ?_;refine aC ?_;intro d c;exact aP.bQ { p with pre:=0,head:=l_,inter:=l_,text:=l_,last:=0,ke:=true,cut:=false } ⟨rfl,⟨by simp,by simp,by have:=a.most;simp;omega,a.most,a.dec,by simp⟩,rfl,rfl,rfl,rfl⟩ rfl (c.BQ ae)
theorem rA (w:World) (p:ce) (i:a8 w (c_ p)) (a:fN p) (c:UInt8):
 Calls prog 212 [gt p.g,.int .u8 (c.toNat:Int)].toArray w (yn p (ym p.h c) p.state w):=by
 have hi:=a.inter
 refine bI func212 ntmps212 i ?_;refine bp ?_;refine aj (λj=>?_) (λj=>?_);have k:ym p.h c=BK:=aw (by show p.inter.l.length=2;omega)
 refine aq ?_;refine cJ (λm n=>lu m p n a) (λz d=>?_);refine ah ?_;have o:z.ke=true:=aU ga.ke d.h
 have t:=d.wf.inter
 rw[k,←d.g];refine aK ?_;refine b1 rfl (λe=>?_) (λe=>?_);simp only[bZ] at e
 refine aC ?_;refine dy (E:=cz) _ ft rfl rfl rfl rfl rfl (λq r s=>?_);refine eC (E:=cz) ft rfl rfl rfl bj (λ_ _=>lf) b4 b4 (λu v=>?_);refine ay ?_;intro f b;exact Bool.noConfusion (o.symm.trans e);simp only[bZ] at e
 refine aq ?_;intro f b;exact aN z d b;refine bp ?_;refine b1 rfl (λaH=>?_) (λaH=>?_);simp only[bZ] at aH
 refine aC ?_;refine dy (E:=cz) _ ft rfl rfl rfl rfl rfl (λq r s=>?_);refine eC (E:=cz) ft rfl rfl rfl bj (λ_ _=>lf) b4 b4 (λx y=>?_);refine ay ?_;intro f b;exact aP.bQ { p with inter:=⟨_,_,p.inter.l++[c]⟩ } ⟨rfl,⟨a.head,by simp;omega,a.text,a.most,a.dec,a.ak⟩,by rw[ym,ag (by show ¬p.inter.l.length=2;omega),ag (by show ¬p.ke=true;simp[*])];rfl,rfl,rfl,rfl⟩ rfl (b.ax ae);simp only[bZ] at aH
 refine aq ?_;intro f b;exact aN p ⟨rfl,a,by rw[ym,ag (by show ¬p.inter.l.length=2;omega),aw bv],rfl,rfl,rfl⟩ b
theorem TF (w:World) (p:ce) (B:a8 w (c_ p)) (a:fN p) (c:UInt8):
 Calls prog 213 [gt p.g,.int .u8 (c.toNat:Int)].toArray w (TE p p.state w):=by
 have hi:=a.head
 refine bI func213 ntmps213 B ?_;refine aQ ?_;refine b1 rfl (λC=>?_) (λC=>?_);refine ah ?_;intro h b;exact aN p ⟨rfl,a,rfl,rfl,rfl,rfl⟩ b;refine ay ?_;refine aW 22 rfl (λaH=>?_) (λaH=>?_);have D:=aX aH
 refine bx ?_;refine aW 29 rfl (λi=>?_) (λi=>?_);have F:=aX i
 refine b7 ?_;refine aW 37 rfl (λj=>?_) (λj=>?_);have G:=aX j
 refine dB ?_;refine aj (λH=>?_) (λH=>?_);refine aJ ?_;intro h b;exact aN { p with pre:=c.toNat } ⟨rfl,⟨a.head,a.inter,a.text,a.most,a.dec,qn c,a.ak.2⟩,rfl,rfl,rfl,rfl⟩ b;refine ay ?_;refine aW 52 rfl (λk=>?_) (λk=>?_);have I:=aX k
 refine hr ?_;refine cJ (λd e=>lu d p e a) (λz f=>?_);refine ah ?_;intro h b;exact aN z f.any b;have I:=bd k
 refine b7 ?_;refine aW 60 rfl (λm=>?_) (λm=>?_);have J:=aX m
 refine bH ?_;refine cJ (λd e=>lu d p e a) (λz f=>?_);refine ah ?_;intro h b;exact aN z f.any b;have J:=bd m
 refine dB ?_;refine aj (λK=>?_) (λK=>?_);refine aq ?_;refine cJ (λd e=>lu d p e a) (λz f=>?_);refine ah ?_;intro h b;exact aN z f.any b;refine aC ?_;refine dy (E:=cz) _ ft rfl rfl rfl rfl rfl (λn o q=>?_);refine eC (E:=cz) ft rfl rfl rfl bj (λ_ _=>ew) aa aa (λU V=>?_);refine al ?_;intro h b;exact aP.bQ { p with head:=⟨_,_,p.head.l++[c]⟩ } ⟨rfl,⟨by simp;omega,a.inter,a.text,a.most,a.dec,a.ak⟩,rfl,rfl,rfl,rfl⟩ rfl (b.ax ae);have G:=bd j
 refine dB ?_;refine aW 52 rfl (λr=>?_) (λr=>?_);have L:=aX r
 refine hr ?_;refine cJ (λd e=>lu d p e a) (λz f=>?_);refine ah ?_;intro h b;exact aN z f.any b;have L:=bd r
 refine b7 ?_;refine aW 60 rfl (λs=>?_) (λs=>?_);have M:=aX s
 refine bH ?_;refine cJ (λd e=>lu d p e a) (λz f=>?_);refine ah ?_;intro h b;exact aN z f.any b;have M:=bd s
 refine dB ?_;refine aj (λN=>?_) (λN=>?_);refine aq ?_;refine cJ (λd e=>lu d p e a) (λz f=>?_);refine ah ?_;intro h b;exact aN z f.any b;refine aC ?_;refine dy (E:=cz) _ ft rfl rfl rfl rfl rfl (λn o q=>?_);refine eC (E:=cz) ft rfl rfl rfl bj (λ_ _=>ew) aa aa (λy A=>?_);refine al ?_;intro h b;exact aP.bQ { p with head:=⟨_,_,p.head.l++[c]⟩ } ⟨rfl,⟨by simp;omega,a.inter,a.text,a.most,a.dec,a.ak⟩,rfl,rfl,rfl,rfl⟩ rfl (b.ax ae);have F:=bd i
 refine jF ?_;refine aW 52 rfl (λt=>?_) (λt=>?_);have O:=aX t
 refine hr ?_;refine cJ (λd e=>lu d p e a) (λz f=>?_);refine ah ?_;intro h b;exact aN z f.any b;have O:=bd t
 refine b7 ?_;refine aW 60 rfl (λu=>?_) (λu=>?_);have P:=aX u
 refine bH ?_;refine cJ (λd e=>lu d p e a) (λz f=>?_);refine ah ?_;intro h b;exact aN z f.any b;have P:=bd u
 refine dB ?_;refine aj (λQ=>?_) (λQ=>?_);refine aq ?_;refine cJ (λd e=>lu d p e a) (λz f=>?_);refine ah ?_;intro h b;exact aN z f.any b;refine aC ?_;refine dy (E:=cz) _ ft rfl rfl rfl rfl rfl (λn o q=>?_);refine eC (E:=cz) ft rfl rfl rfl bj (λ_ _=>ew) aa aa (λy A=>?_);refine al ?_;intro h b;exact aP.bQ { p with head:=⟨_,_,p.head.l++[c]⟩ } ⟨rfl,⟨by simp;omega,a.inter,a.text,a.most,a.dec,a.ak⟩,rfl,rfl,rfl,rfl⟩ rfl (b.ax ae);have D:=bd aH
 refine AB ?_;refine aW 52 rfl (λv=>?_) (λv=>?_);have R:=aX v
 refine hr ?_;refine cJ (λd e=>lu d p e a) (λz f=>?_);refine ah ?_;intro h b;exact aN z f.any b;have R:=bd v
 refine b7 ?_;refine aW 60 rfl (λx=>?_) (λx=>?_);have S:=aX x
 refine bH ?_;refine cJ (λd e=>lu d p e a) (λz f=>?_);refine ah ?_;intro h b;exact aN z f.any b;have S:=bd x
 refine dB ?_;refine aj (λT=>?_) (λT=>?_);refine aq ?_;refine cJ (λd e=>lu d p e a) (λz f=>?_);refine ah ?_;intro h b;exact aN z f.any b;refine aC ?_;refine dy (E:=cz) _ ft rfl rfl rfl rfl rfl (λn o q=>?_);refine eC (E:=cz) ft rfl rfl rfl bj (λ_ _=>ew) b4 b4 (λy A=>?_);refine al ?_;intro h b;exact aP.bQ { p with head:=⟨_,_,p.head.l++[c]⟩ } ⟨rfl,⟨by simp;omega,a.inter,a.text,a.most,a.dec,a.ak⟩,rfl,rfl,rfl,rfl⟩ rfl (b.ax ae)
def vE (p:ce):ce:={ p with pre:=0,head:=l_,inter:=l_,text:=l_,last:=0,ke:=false,cut:=false }
theorem h_ (w:World) (p:ce) (b:a8 w (c_ p)) (a:fN p) (st:Int):
 Calls prog 114 [gt p.g,.int .i64 st].toArray w (yn p nY st w):=by
 refine bI func114 ntmps114 b ?_;refine bH ?_;intro d c;exact aP.bQ { vE p with state:=st } ⟨rfl,⟨by simp[vE],by simp[vE],by have:=a.most;simp[vE];omega,a.most,a.dec,by simp[vE]⟩,rfl,rfl,rfl,rfl⟩ rfl (c.BQ ae)
def yo (h:ga) (most:Int) (c:UInt8):ga:=if most≤h.text.length then { h with cut:=true } else { h with text:=h.text++[c] }
theorem BR (w:World) (p:ce) (e:a8 w (c_ p)) (a:fN p) (c:UInt8):
 Calls prog 160 [gt p.g,.int .u8 (c.toNat:Int)].toArray w (yn p (yo p.h p.most c) p.state w):=by
 have hi:=a.text
 have i:=a.most
 refine bI func160 ntmps160 e ?_;refine aq ?_;refine bF [0,1,2,3,4,5,6,7,8,9,10] 0 [[]] ?_;refine b7 ?_;refine aj (λb=>?_) (λb=>?_);refine bx ?_;intro f d;exact aN { p with cut:=true } ⟨rfl,⟨a.head,a.inter,a.text,a.most,a.dec,a.ak⟩,by rw[yo,aw (by exact b)];rfl,rfl,rfl,rfl⟩ d;refine aQ ?_;refine dy (E:=cz) _ ft rfl rfl rfl rfl rfl (λj k m=>?_);refine eC (E:=cz) ft rfl rfl rfl bj (λ_ _=>nB) b4 b4 (λn o=>?_);refine al ?_;intro f d;exact aP.bQ { p with text:=⟨_,_,p.text.l++[c]⟩ } ⟨rfl,⟨a.head,a.inter,by simp;omega,a.most,a.dec,a.ak⟩,by rw[yo,ag (by exact b)];rfl,rfl,rfl,rfl⟩ rfl (d.ax ae)
theorem Rd.loc {α:Type} {E:bA α} {w w':World} {F:Nat→Prop} {A:Option Addr} {n c:Nat} {l:List α} (h:Rd E w F A n c l) (d: ∀k,F k→w'.heap[k]? = w.heap[k]?):Rd E w' F A n c l:=by
 refine⟨h.len,h.cap,h.max,λe=>?_⟩;obtain⟨bY,f,b,g⟩:=h.cells e;refine⟨bY,f,b,λk a j u i m=>?_⟩;have o:=g k a j u i m
 rw[World.cell?_of_block (w:=w) (w':=w') (by rw[block_add,block_add];exact d _ b)];exact o
theorem d9.loc {w w':World} {F:Nat→Prop} {A:Option Addr} {n c:Nat} {gs:List (List Int)} (h:ct.d9 w F A n c gs) (a: ∀k,F k→w'.heap[k]? = w.heap[k]?):ct.d9 w' F A n c gs:=by
 obtain⟨b,d,e,f⟩:=h;exact⟨b,Rd.loc d a,e,λk s g i j=>Rd.loc (f k s g i j) a⟩
structure kQ where
 A:Option Addr
 n:Nat
 c:Nat
 lo:Nat
 hi:Nat
 gs:List (List Int)
abbrev kQ.val (x:kQ):Value:= .slice x.A x.n x.c
abbrev qo:kQ:=⟨none,0,0,0,0,[]⟩
def kQ.aF (x:kQ):Chunk:=rz x.lo x.hi (λw=>ct.d9 w (λk=>x.lo≤k∧k<x.hi) x.A x.n x.c x.gs) (λ_ _ b h=>d9.loc h (λk a=>b k a.1 a.2))
structure pf (x:kQ):Prop where
 n:x.gs.length≤1000
 g: ∀g∈x.gs,g.length≤1000
theorem Im (w:World):qo.aF.pred w:=⟨by simp,ct.d9.nil w _⟩
theorem In:qo.aF.ch=[]:=rfl
theorem BS:pf qo:=⟨by simp,by simp⟩
theorem TG (w:World) (s:List UInt8) (b:s.length≤1000000):
 Calls prog 209 [.string (bs s)].toArray w (fi (λi:kQ × Bool=> .tuple #[i.1.val,.bool i.2]) (λi=>i.1.aF) (λi=>pf i.1) w):=by
 refine (ct.Tb w s b).mono ?_;intro e w' h;unfold ct.yj at h
 split at h
 obtain⟨A,n,c,rfl,a,d⟩:=h;refine⟨(⟨A,n,c,w.heap.size,w'.heap.size,ct.vz s⟩,true),⟨?_,?_⟩,rfl,a,⟨λ_=>bW _,d.hI⟩,?_,yk _ _ _ _⟩;show (ct.vz s).length≤1000
 have:=ct.vy 59 32 s
 simp[ct.vz]
 omega
 intro g f;obtain⟨x,_,rfl⟩:=dH.1 f;have:=ct.vy 58 8 x
 simp[ct.ka]
 omega
 intro k j;exact (ot.1 j).1;obtain⟨rfl,a⟩:=h;exact⟨(qo,false),BS,rfl,a,Im w',by rw[In];simp,by rw[In];simp⟩
structure dT where
 kind:Int
 r:Int
 byte:Int
 pre:Int
 nums:kQ
 inter:List UInt8
 text:List UInt8
 cut:Bool
abbrev dT.enc (e:dT):List Value:=[.int .i64 e.kind,.int .i32 e.r,.int .u8 e.byte,.int .u8 e.pre,e.nums.val,.string (bs e.inter),.string (bs e.text),.bool e.cut]
def eV:bA dT:=⟨dT.enc,8,λ_=>rfl,λ_=>by repeat (first | exact aI.nil | refine aI.cons rfl ?_)⟩
structure gl where
 A:Option Addr
 c:Nat
 l:List dT
abbrev gl.val (r:gl):Value:= .slice r.A r.l.length r.c
abbrev gl.au (r:gl):Chunk:=Mq.au 171 eV r.A r.c r.l
abbrev gl.b9 (r:gl):Chunk:=aR (r.l.map (λe=>e.nums.aF))
structure hc where
 kind:Int
 r:Int
 byte:Int
 pre:Int
 inter:List UInt8
 text:List UInt8
 cut:Bool
def dT.abs (e:dT):hc:=⟨e.kind,e.r,e.byte,e.pre,e.inter,e.text,e.cut⟩
structure mb (e:dT):Prop where
 nums:pf e.nums
 inter:e.inter.length≤1000
 text:e.text.length≤100000
 u8: (0≤e.byte∧e.byte≤255)∧0≤e.pre∧e.pre≤255
abbrev tz (p:ce) (x:gl):List Chunk:=[p.an,p.head.au,p.inter.au,p.text.au,x.au,x.b9]
structure tA (p:ce) (k:Nat) (R:ce→List hc→Prop) (i:ce × gl):Prop where
 g:i.1.g=p.g
 wf:fN i.1
 most:i.1.most=p.most
 len:i.2.l.length≤k
 ok: ∀e∈i.2.l,mb e
 R:R i.1 (i.2.l.map dT.abs)
def dz (p:ce) (k:Nat) (R:ce→List hc→Prop) (w:World):Ending→World→Prop:=
 aP (λi:ce × gl=>i.2.val) (c_ p) (λi=>tz i.1 i.2) (tA p k R) w
theorem af.BT {b:World} {S:List Nat} {cs:List Chunk} {w:World} (h:af b S cs w) (es:List dT) (f: ∀e∈es,e.nums=qo):af b S (aR (es.map (λe=>e.nums.aF))::cs) w:=by
 refine h.nj (λc a=>?_) ?_;obtain⟨e,d,rfl⟩:=dH.1 a;rw[f e d];exact Im w;show aB (es.map (λe=>e.nums.aF))=[]
 rw[aB,List.flatMap_eq_nil_iff];intro c a;obtain⟨e,d,rfl⟩:=dH.1 a;rw[f e d];rfl
theorem af.BU {b w:World} {S:List Nat} {cs l1 l2:List Chunk} (h:af b S (aR l1::aR l2::cs) w):af b S (aR (l1++l2)::cs) w:=by
 have a:af b S (aR l2::(l1++cs)) w:=h.lb.perm ov
 have c:af b S ((l1++l2)++cs) w:=a.lb.perm (by
  rw[←ea];exact List.perm_append_comm.append_right cs)
 exact c.close'
def BV (e:dT):Prop:=e.nums=qo∧e.inter.length≤1000∧e.text.length≤100000∧(0≤e.byte∧e.byte≤255)∧0≤e.pre∧e.pre≤255
theorem BV.ok {e:dT} (h:BV e):mb e:=⟨h.1▸BS,h.2.1,h.2.2.1,h.2.2.2⟩
theorem dz.z {p q:ce} {k:Nat} {R:ce→List hc→Prop} {w a:World} {cs cs':List Chunk} {A:Option Addr} {c:Nat} {es:List dT} (d:q.g=p.g) (f:fN q) (i:q.most=p.most) (b: ∀e∈es,BV e) (j:es.length≤k) (l:R q (es.map dT.abs))
 (m:af w (aB (c_ p)) cs a) (n:aA cs [q.an,q.head.au,q.inter.au,q.text.au,au 171 eV A c es] cs'):dz p k R w (.returned (.slice A es.length c)) a:=
 aP.bQ (q,⟨A,c,es⟩) ⟨d,f,i,j,λe h=>(b e h).ok,l⟩ rfl (((m.ax n).BT es (λe h=>(b e h).1)).ax ae)
theorem dz.n {p q:ce} {k:Nat} {R:ce→List hc→Prop} {w a:World} {cs cs':List Chunk} (b:q.g=p.g) (c:fN q) (d:q.most=p.most) (e:R q [])
 (f:af w (aB (c_ p)) cs a) (h:aA cs [q.an,q.head.au,q.inter.au,q.text.au] cs'):dz p k R w (.returned (.slice none 0 0)) a:=
 dz.z (es:=[]) b c d av av e ((f.ax h).eU 171 eV) ae
theorem dz.w {p q:ce} {k:Nat} {R:ce→List hc→Prop} {w a:World} {cs cs':List Chunk} {A:Option Addr} {c:Nat} {e:dT} (b:q.g=p.g) (d:fN q) (f:q.most=p.most) (h:mb e) (i:1≤k) (j:R q [e.abs])
 (m:af w (aB (c_ p)) cs a) (n:aA cs [q.an,q.head.au,q.inter.au,q.text.au,au 171 eV A c [e],e.nums.aF] cs'):dz p k R w (.returned (.slice A 1 c)) a:=
 aP.bQ (q,⟨A,c,[e]⟩) ⟨b,d,f,by simpa using i,by simpa using h,j⟩ rfl (((m.ax n).close (l:=[e.nums.aF]) ae).ax ae)
theorem Io (w:World) (p:ce) (f:a8 w (c_ p)) (a:fN p) (kind last:Int) (h:0≤last∧last≤255):
 Calls prog 158 [gt p.g,.int .i64 kind,.int .u8 last].toArray w (aP (λe:dT=> .agg e.enc.toArray) (c_ p) (λe=>[p.an,p.head.au,p.inter.au,p.text.au,e.nums.aF]) (λe=>mb e) w):=by
 refine bI func158 ntmps158 f ?_;refine ah ?_;intro n o q;refine aJ ?_;refine ji underlying51 underlying5 underlying9 rfl rfl (λd b=>hv (b.has cr)) ?_;refine gp rfl N6 rfl (λi r=>TG i p.head.l (by have:=a.head;omega)) (λz j=>?_);refine aK ?_;refine bF [0,1,2,3,4,5,6,7,8,9,10,11,12,13,14,15,16,17,18,19,20,21,22,23,24,25] 1 [[(26,true,[])]] ?_;refine bH ?_;refine aL rfl (λk c=>(ji underlying51 underlying5 underlying9 rfl rfl (λd b=>by subst b;exact hv (c.has hM)) aG)) ?_;refine ay ?_;refine aL rfl (λk c=>(ji underlying51 underlying5 underlying9 rfl rfl (λd b=>by subst b;exact hv (c.has kz)) aG)) ?_;refine cF ?_;intro s m;exact aN ⟨kind,0,last,p.pre,z.1,p.inter.l,p.text.l,p.cut⟩ ⟨j,by have:=a.inter;simp;omega,by have:=a.text;have:=a.most;simp;omega,h,a.ak.1⟩ m
abbrev eI (kind r byte pre:Int) (inter text:List UInt8) (cut:Bool):dT:=⟨kind,r,byte,pre,qo,inter,text,cut⟩
theorem TH {p:ce} (h:fN p):p.text.l.length≤100000:=by have:=h.text;have:=h.most;omega
theorem BW (w:World) (p:ce) (k:a8 w (c_ p)) (b:fN p):
 Calls prog 115 [gt p.g].toArray w (dz p 1 (λq cI=>q=p∧(p.state=4→cI=[⟨4,0,0,0,[],p.text.l,p.cut⟩])∧(p.state≠4→p.state≠3→cI=[])) w):=by
 refine bI func115 ntmps115 k ?_;refine ey ?_;refine aj (λc=>?_) (λc=>?_);refine ar ?_;refine bF [0,1,2,3,4,5,6,7,8,9,10,11] 1 [[(12,false,[13])]] ?_;refine ay ?_;refine aL rfl (λx m=>(ji underlying51 underlying5 underlying9 rfl rfl (λy o=>by subst o;exact hv (m.has gD)) aG)) ?_;refine aK ?_;refine dy (E:=eV) ⟨_,_,_,_,⟨_,_,_,0,0,[]⟩,_,_,_⟩ gW rfl rfl rfl rfl rfl (λA B C=>?_);refine b3 (λ_=>True) (λ_ h=> .inr (h.rem bw.head)) (λ_ h=>a1) ?_;refine aK ?_;intro f a;exact dz.z (es:=[eI 4 0 0 0 [] p.text.l p.cut]) rfl b rfl (by simpa using ⟨rfl,by simp[eI],TH b,by dsimp only[eI];omega⟩) av ⟨rfl,λ_=>rfl,λh=>absurd c h⟩ a ae;refine aK ?_;refine aW 28 rfl (λaH=>?_) (λaH=>?_);have j:=aX aH
 refine b7 ?_;refine aW 36 rfl (λi=>?_) (λi=>?_);have r:=aX i
 refine dB ?_;refine b1 rfl (λd=>?_) (λd=>?_);have s:=d
 simp only[bZ] at d
 refine aK ?_;refine a6 (l0:=c_ p) ae rfl ER rfl (λt u=>Io t p (u.bo ae) b _ _ b.ak.2) (λz v=>?_);refine dy (E:=eV) z gW rfl rfl rfl rfl rfl (λD F G=>?_);refine aC ?_;intro f a;exact dz.w (e:=z) rfl b rfl v aa ⟨rfl,λh=>absurd h c,λ_ h=>absurd j h⟩ a ae;have s:=d
 simp only[bZ] at d
 refine aQ ?_;intro f a;exact dz.n rfl b rfl ⟨rfl,λh=>absurd h c,λ_ _=>rfl⟩ a ae;have r:=bd i
 refine hr ?_;intro f a;exact dz.n rfl b rfl ⟨rfl,λh=>absurd h c,λ_ _=>rfl⟩ a ae;have j:=bd aH
 refine xr ?_;intro f a;exact dz.n rfl b rfl ⟨rfl,λh=>absurd h c,λ_ _=>rfl⟩ a ae
def jt (h:ga) (st most:Int) (c:UInt8):Option ((ga × Int) × List hc):=
 if st=0 then
  if (c.toNat:Int)=27 then some ((nY,1),[])
  else if (c.toNat:Int)=24∨(c.toNat:Int)=26∨127≤(c.toNat:Int) then none
  else if (c.toNat:Int)<32 then some ((h,0),[⟨1,0,c.toNat,0,[],[],false⟩])
  else some ((h,0),[⟨0,c.toNat,0,0,[],[],false⟩])
 else if st=1 then (if (c.toNat:Int)=93∧h.inter.length=0∧h.ke=false then some ((nY,4),[]) else none)
 else if st=4 then
  if (c.toNat:Int)=7 then some ((nY,0),[⟨4,0,0,0,[],h.text,h.cut⟩])
  else if 32≤(c.toNat:Int)∧(c.toNat:Int)<127∧(h.text.length:Int)<most then some (({ h with text:=h.text++[c] },4),[])
  else none
 else none
def iu (p:ce) (c:UInt8) (q:ce) (cI:List hc):Prop:=
 m9 q.dec∧(p.dec.js=0→p.dec.ma=0→ ∀r,jt p.h p.state p.most c=some r→q.dec=p.dec∧q.h=r.1.1∧q.state=r.1.2∧cI=r.2)
theorem Ip (w:World) (p:ce) (G:a8 w (c_ p)) (e:fN p) (x:Int) (M:0≤x∧x≤255):
 Calls prog 157 [gt p.g,.int .u8 x].toArray w (dz p 1 (λq cI=>q.dec=p.dec∧(p.inter.l.length=0→p.ke=false→x=93→q.h=nY∧q.state=4∧cI=[])) w):=by
 have hi:=e.inter
 refine bI func157 ntmps157 G ?_;refine dB ?_;refine aW 13 rfl (λj=>?_) (λj=>?_);have H:=aX j
 refine cF ?_;refine b1 rfl (λaH=>?_) (λaH=>?_);simp only[bZ] at aH
 refine bx ?_;refine aj (λI=>?_) (λI=>?_);refine ah ?_;refine a6 (l0:=c_ p) ae rfl hJ rfl (λb c=>h_ b p (c.bo ae) e _) (λz a=>?_);refine bp ?_;intro f d;exact dz.n a.g a.wf a.most ⟨a.dec,λ_ _ _=>⟨a.h,by have:=a.st;omega,rfl⟩⟩ d ae;refine al ?_;refine aj (λJ=>?_) (λJ=>?_);refine ah ?_;refine a6 (l0:=c_ p) ae rfl hJ rfl (λb c=>h_ b p (c.bo ae) e _) (λz a=>?_);refine bp ?_;intro f d;exact dz.n a.g a.wf a.most ⟨a.dec,λ_ _ _=>⟨a.h,by have:=a.st;omega,rfl⟩⟩ d ae;refine al ?_;refine aj (λK=>?_) (λK=>?_);refine ah ?_;refine a6 (l0:=c_ p) ae rfl hJ rfl (λb c=>h_ b p (c.bo ae) e _) (λz a=>?_);refine bp ?_;intro f d;exact dz.n a.g a.wf a.most ⟨a.dec,λ_ _ _=>⟨a.h,by have:=a.st;omega,rfl⟩⟩ d ae;refine aC ?_;refine aj (λk=>?_) (λk=>?_);have y:=k
 refine aq ?_;refine eE rfl ((bX y)) ?_;refine ah ?_;refine a6 (l0:=c_ p) ae rfl hJ rfl (λb c=>h_ b p (c.bo ae) e _) (λz a=>?_);refine bp ?_;intro f d;exact dz.n a.g a.wf a.most ⟨a.dec,λ_ _ _=>⟨a.h,by have:=a.st;omega,rfl⟩⟩ d ae;have y:=k
 refine al ?_;refine aj (λm=>?_) (λm=>?_);have A:=m
 refine aq ?_;refine eE rfl ((bX A)) ?_;refine ah ?_;refine a6 (l0:=c_ p) ae rfl hJ rfl (λb c=>h_ b p (c.bo ae) e _) (λz a=>?_);refine bp ?_;intro f d;exact dz.n a.g a.wf a.most ⟨a.dec,λ_ _ _=>⟨a.h,by have:=a.st;omega,rfl⟩⟩ d ae;have A:=m
 refine ay ?_;refine aj (λL=>?_) (λL=>?_);refine ah ?_;refine a6 (l0:=c_ p) ae rfl hJ rfl (λb c=>h_ b p (c.bo ae) e _) (λz a=>?_);refine bp ?_;intro f d;exact dz.n a.g a.wf a.most ⟨a.dec,λ_ _ _=>⟨a.h,by have:=a.st;omega,rfl⟩⟩ d ae;refine eL ?_;refine b1 rfl (λo=>?_) (λo=>?_);simp only[bZ] at o
 refine aC ?_;refine ji underlying51 underlying5 underlying9 rfl rfl (λB i=>hv (i.has cr)) ?_;refine ar ?_;refine dy (E:=eV) ⟨_,_,_,_,⟨_,_,_,0,0,[]⟩,_,_,_⟩ gW rfl rfl rfl rfl rfl (λC D F=>?_);refine al ?_;refine a6 (l0:=c_ p) ae rfl hJ rfl (λb c=>h_ b p (c.bo ae) e _) (λz a=>?_);refine aQ ?_;intro f d;exact dz.z (es:=[eI 2 0 x 0 p.inter.l [] false]) a.g a.wf a.most (by simpa using ⟨rfl,by simp[eI];omega,by simp[eI],by dsimp only[eI];omega⟩) av ⟨a.dec,λr s t=>by omega⟩ d ae;simp only[bZ] at o
 refine ay ?_;refine a6 (l0:=c_ p) ae rfl hJ rfl (λb c=>h_ b p (c.bo ae) e _) (λz a=>?_);refine aQ ?_;intro f d;exact dz.n a.g a.wf a.most ⟨a.dec,λ_ _ _=>⟨a.h,by have:=a.st;omega,rfl⟩⟩ d ae;simp only[bZ] at aH
 refine eR ?_;refine b1 rfl (λu=>?_) (λu=>?_);simp only[bZ] at u
 refine aC ?_;refine ji underlying51 underlying5 underlying9 rfl rfl (λB i=>hv (i.has cr)) ?_;refine ar ?_;refine dy (E:=eV) ⟨_,_,_,_,⟨_,_,_,0,0,[]⟩,_,_,_⟩ gW rfl rfl rfl rfl rfl (λC D F=>?_);refine al ?_;refine a6 (l0:=c_ p) ae rfl hJ rfl (λb c=>h_ b p (c.bo ae) e _) (λz a=>?_);refine aQ ?_;intro f d;exact dz.z (es:=[eI 2 0 x 0 p.inter.l [] false]) a.g a.wf a.most (by simpa using ⟨rfl,by simp[eI];omega,by simp[eI],by dsimp only[eI];omega⟩) av ⟨a.dec,λr s t=>by (simp_all;done)⟩ d ae;simp only[bZ] at u
 refine ay ?_;refine a6 (l0:=c_ p) ae rfl hJ rfl (λb c=>h_ b p (c.bo ae) e _) (λz a=>?_);refine aQ ?_;intro f d;exact dz.n a.g a.wf a.most ⟨a.dec,λr s t=>by (simp_all;done)⟩ d ae;have H:=bd j
 refine xq ?_;refine b1 rfl (λv=>?_) (λv=>?_);simp only[bZ] at v
 refine aC ?_;refine ji underlying51 underlying5 underlying9 rfl rfl (λB i=>hv (i.has cr)) ?_;refine ar ?_;refine dy (E:=eV) ⟨_,_,_,_,⟨_,_,_,0,0,[]⟩,_,_,_⟩ gW rfl rfl rfl rfl rfl (λC D F=>?_);refine al ?_;refine a6 (l0:=c_ p) ae rfl hJ rfl (λb c=>h_ b p (c.bo ae) e _) (λz a=>?_);refine aQ ?_;intro f d;exact dz.z (es:=[eI 2 0 x 0 p.inter.l [] false]) a.g a.wf a.most (by simpa using ⟨rfl,by simp[eI];omega,by simp[eI],by dsimp only[eI];omega⟩) av ⟨a.dec,λr s t=>by omega⟩ d ae;simp only[bZ] at v
 refine ay ?_;refine a6 (l0:=c_ p) ae rfl hJ rfl (λb c=>h_ b p (c.bo ae) e _) (λz a=>?_);refine aQ ?_;intro f d;exact dz.n a.g a.wf a.most ⟨a.dec,λ_ _ _=>⟨a.h,by have:=a.st;omega,rfl⟩⟩ d ae
theorem Iq (w:World) (p:ce) (i:a8 w (c_ p)) (f:fN p) (c:UInt8):
 Calls prog 161 [gt p.g,.int .u8 (c.toNat:Int)].toArray w (dz p 1 (λq cI=>q.dec=p.dec∧(p.inter.l.length=0→p.ke=false→(c.toNat:Int)=93→q.h=nY∧q.state=4∧cI=[])) w):=by
 refine bI func161 ntmps161 i ?_;refine bx ?_;refine aj (λj=>?_) (λj=>?_);refine al ?_;refine cJ (λb d=>rA b p d f c) (λz a=>?_);refine aQ ?_;intro k e;exact dz.n a.g a.wf a.most ⟨a.dec,λ_ _ m=>by omega⟩ e ae;refine al ?_;refine a6 (l0:=c_ p) ae rfl EQ rfl (λb d=>Ip b p (d.bo ae) f _ (qn _)) (λz a=>?_);refine ay ?_;intro k e;exact aN z ⟨a.g,a.wf,a.most,a.len,a.ok,a.R⟩ e
theorem Ir (w:World) (p:ce) (k:a8 w (c_ p)) (b:fN p) (c:UInt8):
 Calls prog 162 [gt p.g,.int .u8 (c.toNat:Int)].toArray w (dz p 1 (λq _=>q.dec=p.dec) w):=by
 refine bI func162 ntmps162 k ?_;refine b7 ?_;refine aj (λl=>?_) (λl=>?_);refine al ?_;refine cJ (λd f=>rA d p f b c) (λz a=>?_);refine bp ?_;intro i h;exact dz.n a.g a.wf a.most a.dec h ae;refine aC ?_;refine aj (λaH=>?_) (λaH=>?_);refine al ?_;refine cJ (λd f=>TF d p f b c) (λz a=>?_);refine bp ?_;intro i h;exact dz.n a.g a.wf a.most a.dec h ae;refine aQ ?_;refine aj (λm=>?_) (λm=>?_);refine eL ?_;intro i h;exact dz.n (q:={ p with last:=c.toNat }) rfl ⟨b.head,b.inter,b.text,b.most,b.dec,b.ak.1,qn c⟩ rfl rfl h ae;refine eL ?_;refine b1 rfl (λj=>?_) (λj=>?_);simp only[bZ] at j
 refine ah ?_;refine a6 (l0:=c_ p) ae rfl ER rfl (λd f=>Io d p (f.bo ae) b _ _ (qn _)) (λx o=>?_);refine dy (E:=eV) x gW rfl rfl rfl rfl rfl (λr s t=>?_);refine al ?_;refine a6 (l0:=c_ p) ae rfl hJ rfl (λd f=>h_ d p (f.bo ae) b _) (λz a=>?_);refine aQ ?_;intro i h;exact dz.w (e:=x) a.g a.wf a.most o aa a.dec h ae;simp only[bZ] at j
 refine ay ?_;refine a6 (l0:=c_ p) ae rfl hJ rfl (λd f=>h_ d p (f.bo ae) b _) (λz a=>?_);refine aQ ?_;intro i h;exact dz.n a.g a.wf a.most a.dec h ae
theorem pg {h:ga} {most:Int} {c:UInt8} {r: (ga × Int) × List hc} (e:jt h 4 most c=some r):
 ((c.toNat:Int)=7∧r=((nY,0),[⟨4,0,0,0,[],h.text,h.cut⟩]))∨((c.toNat:Int)≠7∧32≤(c.toNat:Int)∧(c.toNat:Int)<127∧(h.text.length:Int)<most∧r=(({ h with text:=h.text++[c] },4),[])):=by
 unfold jt at e
 rw[ag aZ,ag aZ,aw rfl] at e
 split at e
 exact .inl ⟨bv,by simpa using e.symm⟩;split at e
 rename_i b a;exact .inr ⟨b,a.1,a.2.1,a.2.2,by simpa using e.symm⟩;cases e
theorem BX (w:World) (p:ce) (H:a8 w (c_ p)) (j:fN p) (c:UInt8):
 Calls prog 117 [gt p.g,.int .u8 (c.toNat:Int)].toArray w (dz p 1 (λq cI=>q.dec=p.dec∧ ∀r,p.state=4→jt p.h p.state p.most c=some r→q.h=r.1.1∧q.state=r.1.2∧cI=r.2) w):=by
 refine bI func117 ntmps117 H ?_;refine cF ?_;refine aW 12 rfl (λu=>?_) (λu=>?_);have I:=aX u
 refine dB ?_;refine b1 rfl (λaH=>?_) (λaH=>?_);have J:=aH
 simp only[bZ] at aH
 refine ah ?_;refine cJ (λf i=>BR f p i j c) (λz a=>?_);refine aQ ?_;intro k e;exact dz.n a.g a.wf a.most ⟨a.dec,λr d b=>by omega⟩ e ae;have J:=aH
 simp only[bZ] at aH
 refine aQ ?_;refine aj (λG=>?_) (λG=>?_);refine aQ ?_;intro k e;exact dz.n rfl j rfl ⟨rfl,λr d b=>by exact absurd d G⟩ e ae;refine aC ?_;refine aj (λK=>?_) (λK=>?_);refine ah ?_;refine cJ (λf i=>BW f p i j) (λx l=>?_);refine ar ?_;obtain⟨v,y,A,B⟩:=x;obtain⟨m,C,L⟩:=l.R;replace m:p=v:=m.symm
 subst m;have D:=l.wf
 refine ay ?_;refine a6 (l0:=c_ p) ae rfl hJ rfl (λf i=>h_ f p (i.bo ae) D _) (λz a=>?_);refine bx ?_;intro k e;exact aN (z,⟨y,A,B⟩) ⟨a.g,a.wf,a.most,l.len,l.ok,a.dec,λr d b=>by rw[d] at b;rcases pg b with ⟨_,rfl⟩ | ⟨o,_⟩;exact⟨a.h,a.st,C d⟩;omega⟩ e;refine ay ?_;refine aW 40 rfl (λE=>?_) (λE=>?_);have M:=aX E
 refine aK ?_;refine aj (λN=>?_) (λN=>?_);refine ah ?_;refine cJ (λf i=>BR f p i j c) (λz a=>?_);refine aQ ?_;intro k e;exact dz.n a.g a.wf a.most ⟨a.dec,λr d b=>by omega⟩ e ae;refine aQ ?_;intro k e;exact dz.n rfl j rfl ⟨rfl,λr d b=>by (rw[d] at b;rcases pg b with ⟨o,_⟩ | ⟨_,s,t,_,_⟩ <;> omega)⟩ e ae;have M:=bd E
 refine ey ?_;intro k e;exact dz.n rfl j rfl ⟨rfl,λr d b=>by (rw[d] at b;rcases pg b with ⟨o,_⟩ | ⟨_,s,t,_,_⟩ <;> omega)⟩ e ae;have I:=bd u
 refine hr ?_;refine aj (λO=>?_) (λO=>?_);refine aQ ?_;intro k e;exact dz.n rfl j rfl ⟨rfl,λr d b=>by (rw[d] at b;rcases pg b with ⟨o,_⟩ | ⟨_,s,t,_,_⟩ <;> omega)⟩ e ae;refine aC ?_;refine aj (λP=>?_) (λP=>?_);refine ah ?_;refine cJ (λf i=>BW f p i j) (λx l=>?_);refine ar ?_;obtain⟨v,y,A,B⟩:=x;obtain⟨m,C,L⟩:=l.R;replace m:p=v:=m.symm
 subst m;have D:=l.wf
 refine ay ?_;refine a6 (l0:=c_ p) ae rfl hJ rfl (λf i=>h_ f p (i.bo ae) D _) (λz a=>?_);refine bx ?_;intro k e;exact aN (z,⟨y,A,B⟩) ⟨a.g,a.wf,a.most,l.len,l.ok,a.dec,λr d b=>by rw[d] at b;rcases pg b with ⟨_,rfl⟩ | ⟨o,_⟩;exact⟨a.h,a.st,C d⟩;omega⟩ e;refine ay ?_;refine aW 40 rfl (λF=>?_) (λF=>?_);have Q:=aX F
 refine aK ?_;refine aj (λS=>?_) (λS=>?_);refine ah ?_;refine cJ (λf i=>BR f p i j c) (λz a=>?_);refine aQ ?_;intro k e;exact dz.n a.g a.wf a.most ⟨a.dec,λr d b=>by (rw[d] at b;rcases pg b with ⟨o,_⟩ | ⟨_,_,_,T,rfl⟩;omega;exact⟨by rw[a.h,yo,ag aa],by rw[a.st,d],rfl⟩)⟩ e ae;refine aQ ?_;intro k e;exact dz.n rfl j rfl ⟨rfl,λr d b=>by (rw[d] at b;rcases pg b with ⟨o,_⟩ | ⟨_,s,t,_,_⟩ <;> omega)⟩ e ae;have Q:=bd F
 refine ey ?_;intro k e;exact dz.n rfl j rfl ⟨rfl,λr d b=>by (rw[d] at b;rcases pg b with ⟨o,_⟩ | ⟨_,s,t,_,_⟩ <;> omega)⟩ e ae
end Go.Proofs.YtlgnfdodnhokjaaGreatDoor.Mq
