/- part 30 of the proof -/
import Derived.Test.YtnfmgboendlmaaaGreatDoorQ29
set_option linter.all false
namespace Go.Proofs.YtnfmgboendlmaaaGreatDoor.Mq
open RowKit Tryz
variable {P:Program}{n d:Nat}{ops:Array Oper}{Q:cN}{rest:List Oper}{l:Fr}{ty:TypeId}{pos:String}{bf:Array Edge}{b:World}{S:List Nat}{cs:List Chunk}
variable [Inhabited vP]{x:Chunk}{G:Ending}{e:Int}{k:List UInt8}{F M N a:Nat}{W:Option Addr}{C:Option cA}{H O:World}{J:bA}{u:bM}{K U:cA}{z:ck}{w:eO}{A:hH}{Y:hR}{Z:pJ}(c:World)(I:bA)(V:fb)(D:cA)(y:ck)(h:Nat)(o:Int)(B:List UInt8)(E:Nat)(r:Chunk)(j:bM)
abbrev ms :bA:={ I with az:={ I.az with bu:=⟨none,0,[]⟩ } }
def Kx{w:World}(b:bc w (a8 J)):ay 205 [ptr J.az.g] w (aX (λ_:Unit=>J.az.bu.val) (a8 J) (λ_=>a8 (ms J)++[J.az.bu.aD]) (λ_=>True) w):=by
 have a:ag w (aK<|a8 J) (a8 J) w:=b.start w rfl
 refine (TI w J.az<|a.cb ah).mono ?_;rintro d e ⟨f,h,rfl,c⟩;exact⟨(),bh,rfl,(a.mR ah c).aF ah⟩
def pU :n1:=⟨false,0,0,false,[],0,0,V.kind,V.at_,V.n⟩
def ju :cA:=
 if D.use=true then { D with br:={ D.br with bz:={ D.br.bz with g_:=[] } },aQ:=D.aQ++D.br.bz.g_.map pU }
 else { D with am:={ D.am with bz:={ D.am.bz with g_:=[] } },aQ:=D.aQ++D.am.bz.g_.map pU }
def Ky(b:eP I):eP (ms I):=⟨⟨b.g.r,b.g.st,b.g.n⟩,⟨⟨b.ok.bz.al,b.ok.bz.rows,b.ok.bz.wide,b.ok.bz.oM,b.ok.bz.room⟩,b.ok.y,b.ok.x,b.ok.top⟩,b.small,⟨b.iB.p,b.iB.a,b.iB.v⟩⟩
def Kz(Q : bc c (b0 h E r j))(k : cK h e a j)(Zf : a <= 1460000000000) :
 ay 126 [ptr h] c (n_ h E r e a j (some (ju j.abs)) c) := by
 obtain ⟨b, d, R, t, u, v, o, n⟩ := j
 have S := k.bu
 dsimp only at S
 refine bX func126 ntmps126 Q ?_
 cases R with
 | false =>
  refine aI ?_
  refine d9 (q := 0) underlying117 rD rfl rfl rfl (by rfl) (by omega) ?_
  refine av ?_
  refine bd (fun y m => kc y b (m.fk (l := a8 b) cz Has.head)) ?_
  refine ml (l0 := a8 b) (l' := fun _ : Unit => a8 (ms b) ++ [b.az.bu.aD]) (cs1 := fun _ => [eu h E ⟨b, d, false, t, u, v, o, n⟩, aZ (a8 (ms b) ++ [b.az.bu.aD]), aZ (a8 d), o.aD, n.aD, r]) (fun _ => bC.tail bC.head) (fun y m => Kx (m.mj (Has.tail Has.head))) (fun _ _ => ?_)
  refine aI ?_
  refine cd (ι := Nat × pJ) (fun g => [(0, ptr h), (10, b.az.bu.val), (11, ad (b.az.bu.l.length : Int)), (12, ad (g.1 : Int))]) (fun g => ag c (aK (b0 h E r ⟨b, d, false, t, u, v, o, n⟩)) (b.az.bu.aD :: b0 h E r ⟨ms b, d, false, t, u, v, o, g.2⟩)) (fun g => g.1 <= b.az.bu.l.length /\ g.2.l = n.l ++ (b.az.bu.l.take g.1).map pU) (fun g => b.az.bu.l.length - g.1) ?_ ?_
  ·exact fun T A => ⟨(0, n), ⟨Nat.zero_le _, by simp⟩, (da rfl rfl rfl rfl), by
    have w := (A.open (l := a8 (ms b) ++ [b.az.bu.aD]) c6)
    exact (w.close (l := a8 (ms b)) ah).aF ah⟩
  ·rintro ⟨i, p⟩ ⟨B, q⟩
   dsimp only at B q ⊢
   have U : p.l.length = n.l.length + i := by rw [q, List.length_append, List.length_map, List.length_take]; omega
   refine aH ?_
   refine (cj) (fun C => ?_) (fun C => ?_)
   ·obtain ⟨s, D⟩ : ∃ s, b.az.bu.l[i]? = some s := ⟨b.az.bu.l[i]'(by omega), List.getElem?_eq_getElem _⟩
    obtain ⟨F, G, H⟩ := s
    refine aH ?_
    refine ik (E := lD) bw BI rfl rfl rfl (by rfl) (by omega) (fun V I => ?_)
    refine cE BK rfl rfl rfl (fun W w J K L => w.hG (E := lD) bw I (by assumption) J K L) ?_
    refine av ?_
    intro M X Y
    refine ap ?_
    refine fg [0, 1, 2, 3, 4, 5, 6] 3 [[(7, false, []), (8, false, [9, 10]), (11, true, [])]] (_) mixed (by kernel_rfl) (fun _ x => x.drew) (fun _ f => (show ag _ _ [aG M _ 232, eu h E _] _ from f.aF ah)) ?_
    refine a6 ?_
    refine ef (E := ne) ⟨_, _, _, _, [], _, _, _, _, _⟩ s4 rfl rfl rfl rfl rfl (fun Z Za Zb => ?_)
    refine cv (fun _ => True) (fun _ f => .inr (f.aF ah)) (fun _ f => trivial) ?_
    refine aA ?_
    refine fu (E := ne) s4 rfl rfl rfl bx (fun _ _ => wN) cg cg (fun Zg Zh => ?_)
    refine cv (fun _ => True) (fun _ f => .inr ⟨.inr (f.aF ah), (by trivial)⟩) (fun _ f => trivial) ?_
    refine cZ ?_
    exact bv (i + 1, ⟨_, _, p.l ++ [⟨false, 0, 0, false, [], 0, 0, F, G, H⟩]⟩) ⟨by omega, by dsimp only; rw [q, List.take_add_one, D, List.append_assoc]; simp [pU]⟩ bL (da rfl rfl rfl rfl) (fun _ f => f.aF ah)
   ·refine aI ?_
    intro Zc x
    have N : i = b.az.bu.l.length := by omega
    have z : p.l = n.l ++ b.az.bu.l.map pU := by rw [q, N, List.take_length]
    refine eV ⟨ms b, d, false, t, u, v, o, p⟩ ⟨⟨Ky _ k.am, k.br, k.room, k.bt, k.cy, ?_, k.buf, ?_, k.md⟩, fun Zd O => ?_⟩ x
    ·dsimp only [List.length_nil]; omega
    ·intro P m; dsimp only at m; rw [z] at m; exact (List.mem_append.1 m).elim (k.aQ P) (fun f => by obtain ⟨Ze, _, rfl⟩ := List.mem_map.1 f; simp [pU])
    ·cases O; simp only [bM.abs, ju, z]; rfl
 | true =>
  refine aI ?_
  refine d9 (q := 0) underlying117 rD rfl rfl rfl (by rfl) (by omega) ?_
  refine av ?_
  refine bd (fun y m => kc y d (m.fk (l := a8 d) cW Has.head)) ?_
  refine ml (l0 := a8 d) (l' := fun _ : Unit => a8 (ms d) ++ [d.az.bu.aD]) (cs1 := fun _ => [eu h E ⟨b, d, true, t, u, v, o, n⟩, aZ (a8 b), aZ (a8 (ms d) ++ [d.az.bu.aD]), o.aD, n.aD, r]) (fun _ => bC.tail (bC.tail bC.head)) (fun y m => Kx (m.mj (Has.tail (Has.tail Has.head)))) (fun _ _ => ?_)
  refine aI ?_
  refine cd (ι := Nat × pJ) (fun g => [(0, ptr h), (10, d.az.bu.val), (11, ad (d.az.bu.l.length : Int)), (12, ad (g.1 : Int))]) (fun g => ag c (aK (b0 h E r ⟨b, d, true, t, u, v, o, n⟩)) (d.az.bu.aD :: b0 h E r ⟨b, ms d, true, t, u, v, o, g.2⟩)) (fun g => g.1 <= d.az.bu.l.length /\ g.2.l = n.l ++ (d.az.bu.l.take g.1).map pU) (fun g => d.az.bu.l.length - g.1) ?_ ?_
  ·exact fun T A => ⟨(0, n), ⟨Nat.zero_le _, by simp⟩, (da rfl rfl rfl rfl), by
    have w := (A.open (l := a8 (ms d) ++ [d.az.bu.aD]) pm)
    exact (w.close (l := a8 (ms d)) ah).aF ah⟩
  ·rintro ⟨i, p⟩ ⟨B, q⟩
   dsimp only at B q ⊢
   have U : p.l.length = n.l.length + i := by rw [q, List.length_append, List.length_map, List.length_take]; omega
   refine aH ?_
   refine (cj) (fun C => ?_) (fun C => ?_)
   ·obtain ⟨s, D⟩ : ∃ s, d.az.bu.l[i]? = some s := ⟨d.az.bu.l[i]'(by omega), List.getElem?_eq_getElem _⟩
    obtain ⟨F, G, H⟩ := s
    refine aH ?_
    refine ik (E := lD) bw BI rfl rfl rfl (by rfl) (by omega) (fun V I => ?_)
    refine cE BK rfl rfl rfl (fun W w J K L => w.hG (E := lD) bw I (by assumption) J K L) ?_
    refine av ?_
    intro M X Y
    refine ap ?_
    refine fg [0, 1, 2, 3, 4, 5, 6] 3 [[(7, false, []), (8, false, [9, 10]), (11, true, [])]] (_) mixed (by kernel_rfl) (fun _ x => x.drew) (fun _ f => (show ag _ _ [aG M _ 232, eu h E _] _ from f.aF ah)) ?_
    refine a6 ?_
    refine ef (E := ne) ⟨_, _, _, _, [], _, _, _, _, _⟩ s4 rfl rfl rfl rfl rfl (fun Z Za Zb => ?_)
    refine cv (fun _ => True) (fun _ f => .inr (f.aF ah)) (fun _ f => trivial) ?_
    refine aA ?_
    refine fu (E := ne) s4 rfl rfl rfl bx (fun _ _ => wN) cg cg (fun Zi Zj => ?_)
    refine cv (fun _ => True) (fun _ f => .inr ⟨.inr (f.aF ah), (by trivial)⟩) (fun _ f => trivial) ?_
    refine cZ ?_
    exact bv (i + 1, ⟨_, _, p.l ++ [⟨false, 0, 0, false, [], 0, 0, F, G, H⟩]⟩) ⟨by omega, by dsimp only; rw [q, List.take_add_one, D, List.append_assoc]; simp [pU]⟩ bL (da rfl rfl rfl rfl) (fun _ f => f.aF ah)
   ·refine aI ?_
    intro Zc x
    have N : i = d.az.bu.l.length := by omega
    have z : p.l = n.l ++ d.az.bu.l.map pU := by rw [q, N, List.take_length]
    refine eV ⟨b, ms d, true, t, u, v, o, p⟩ ⟨⟨k.am, Ky _ k.br, k.room, k.bt, k.cy, ?_, k.buf, ?_, k.md⟩, fun Zd O => ?_⟩ x
    ·dsimp only [List.length_nil]; omega
    ·intro P m; dsimp only at m; rw [z] at m; exact (List.mem_append.1 m).elim (k.aQ P) (fun f => by obtain ⟨Ze, _, rfl⟩ := List.mem_map.1 f; simp [pU])
    ·cases O; simp only [bM.abs, ju, z]; rfl
def Ef(a:Os.ng)(b c:Int):n1:=⟨true,a.kind,a.code,a.has,a.text,b,c,0,0,0⟩
def pV(t:cA)(a:List UInt8)(b:Bool):cA:=
 if b=true then t else
 if (Os.nh a).kind=8 then { t with cy:=(Os.nh a).text } else
 if (Os.nh a).kind≠0/\t.use=false then { ju t with aQ:=(ju t).aQ++[Ef (Os.nh a) ((ju t).am.y+ha (ju t).am.bz) (ju t).am.x] } else t
def KA(t:cA)(s:List UInt8):pV t s true=t:=aB rfl
section
variable {t:cA}{s:List UInt8}{rd:Os.ng}
def KB(a:rd=Os.nh s)(b:rd.kind=8):pV t s false= { t with cy:=rd.text }:=by
 subst a;rw[pV,ai aW,aB b]
def Eg(b:rd=Os.nh s)(c:rd.kind≠8)(h:rd.kind=0\/t.use=true):pV t s false=t:=by
 subst b;rw[pV,ai aW,ai c,ai (λa=>by rcases h with h | h;exact a.1 h;rw[h] at a;exact Bool.noConfusion a.2)]
def VO(a:rd=Os.nh s)(b:rd.kind≠8)(c:rd.kind≠0)(e:t.use=false){d:cA}(f:d=ju t):pV t s false= { d with aQ:=d.aQ++[Ef rd (d.am.y+ha d.am.bz) d.am.x] }:=by
 subst a;subst f
 rw[pV,ai aW,ai b,aB ⟨c,e⟩]
end
section
variable {args:List Operand}{di:Array TypeId}{f:FuncId}{vs:List Value}{g par m:Nat}{R:Int}{T:bM}{X gm tO:Chunk}{q:Option cA}
def VP
 (k: ∀a,bc a (b0 g par X T)->Calls P f vs.toArray a (n_ g par X R m T q a))
 (o: ∀c:bM,cK g R m c->(∀e,q=some e->c.abs=e)->aM P n ops Q rest ((d,.tuple #[])::l) (ag b S<|gm::tO::b0 g par X c)) (hargs:db l args=some vs:=by exact rfl) (p:Nat.blt d n=true:=by exact rfl) (r:dX P f:=by exact cL):
 aM P n ops Q (⟨some d,.call ⟨.value<|.func f,args.toArray,di⟩,ty,pos,bf,none⟩::rest) l (ag b S<|gm::tO::b0 g par X T):=by
 refine iw rfl (hd:=p) (hcb:=r) (hargs:=hargs) λa h=>?_
 have:=k a<|h.cb ah
 simp only[jV,kr];refine this.mono ?_;rintro t u ⟨i,j,rfl,s⟩;exact⟨.tuple #[],rfl,(o i j.1 j.2).at<|(h.mR ah s).perm<|p9 (l₁:=b0 g par X i) (l₂:=[gm,tO])⟩
def VQ
 (j: ∀a,bc a (b0 g par X T)->Calls P f vs.toArray a (n_ g par X R m T q a))
 (k: ∀c:bM,cK g R m c->(∀e,q=some e->c.abs=e)->aM P n ops Q rest ((d,.tuple #[])::l) (ag b S<|b0 g par X c)) (o:db l args=some vs:=by exact rfl) (p:Nat.blt d n=true:=by exact rfl) (r:dX P f:=by exact cL):
 aM P n ops Q (⟨some d,.call ⟨.value<|.func f,args.toArray,di⟩,ty,pos,bf,none⟩::rest) l (ag b S<|b0 g par X T):=by
 refine iw rfl (hd:=p) (hcb:=r) (hargs:=o) λa h=>?_
 have:=j a<|h.cb ah
 simp only[jV,kr];refine this.mono ?_;rintro u v ⟨s,i,rfl,t⟩;exact⟨.tuple #[],rfl,(k s i.1 i.2).at<|h.mR ah t⟩
end
def VR{g:Nat}{R:Int}{m:Nat}{d:bA}{f:pJ}{t:cA}{rd:Os.ng}{s:List UInt8}{i:Bool}(b:cK g R m ⟨J,d,false,a,k,W,Y,Z⟩)
 (p: ∀r,some (ju t)=some r->bM.abs ⟨J,d,false,a,k,W,Y,Z⟩=r) (q:rd=Os.nh s) (c:i=false) (u: ¬rd.kind=8) (v: ¬rd.kind=0) (w:rd.text.length<=256) (h:f.l=Z.l++[Ef rd (J.y+J.az.r.n) J.x]:=by rfl):
 cK g R (m+1) ⟨J,d,false,a,k,W,Y,f⟩/\ ∀r,some (pV t s i)=some r->bM.abs ⟨J,d,false,a,k,W,Y,f⟩=r:=by
 subst c;have j:=p _ rfl
 have e:t.use=false:=by
  have o:=a_ cA.use j
  cases e:t.use
  rfl
  rw[ju,aB e,e] at o
  exact absurd o (by simp[bM.abs])
 have z: (ha J.az.abs:Int)=J.az.r.n:=by
  have A:=b.am.g.r.n
  show (J.az.r.rows.length:Int)=_
  rw[lE];dsimp only at A
  omega
 refine⟨⟨b.am,b.br,b.room,b.bt,b.cy,?_,by have:=b.buf;dsimp only at this ⊢;omega,?_,b.md⟩,λr B=>?_⟩;have:=b.bu
 dsimp only at this ⊢
 rw[h,b3,kt];omega
 intro C c;dsimp only at c
 rw[h] at c
 rcases dq.1 c with c | c
 exact b.aQ C c;rw[e0.1 c];exact w
 cases B
 rw[VO q u v e j];simp only[bM.abs,h];rw[<-z];rfl
set_option maxHeartbeats 1000000 in
def VS(g par:Nat)(X:Chunk)(T:bM)(N:bc c (b0 g par X T))(G:n9 X w){R:Int}{m:Nat}(a:cK g R m T)(Ze:m<=1460000000000):
 ay 116 [ptr g,.agg w.enc.toArray] c (n_ g par X R (m+1) T (some<|pV T.abs w.text w.cut) c):=by
 have H:=G.q1
 have A:=Os.UZ w.text
 have I:w.text.length<=1000000:=by have:=G.ok.text;omega
 obtain⟨rd,j⟩ : ∃rd,rd=Os.nh w.text:=⟨_,rfl⟩;rw[<-j] at A
 obtain⟨cut,k⟩ : ∃cut,w.cut=cut:=⟨_,rfl⟩;rw[k];refine bX func116 ntmps116 N ?_;obtain⟨b,o,B,p,t,q,s,h⟩:=T;cases B with
 | true=>
  refine ap ?_;intro O P Q;refine a6 ?_;refine cD rfl (λS=>?_) λS=>?_;refine ap ?_;exact λu d=>aX.cf ⟨b,o,_,p,t,q,s,h⟩ ⟨a.mono aa,λz e=>by cases e;rw[show cut=true from k.symm.trans bR,KA]⟩ rfl<|d.aF ah
  refine aH ?_;refine bd (v:= .agg rd.cells.toArray) (λf i=>by rw[j];exact Os.Kg f (H f<|i.has hM).os w.text I) ?_;refine av ?_;intro J U V;refine b6 ?_;refine (cj) (λC=>?_) λC=>?_;have W:=C
  refine be ?_;exact λu d=>aX.cf ⟨b,o,_,p,rd.text,q,s,h⟩ ⟨⟨a.am,a.br,a.room,a.bt,A,by have:=a.bu;dsimp only at this ⊢;omega,by have:=a.buf;dsimp only at this ⊢;omega,a.aQ,a.md⟩,λz e=>by cases e;rw[show cut=false from k.symm.trans bR,KB j bR];rfl⟩ rfl<|d.aF ah
  have W:=C
  refine aH ?_;refine bl 25 rfl (λD=>?_) λD=>?_;have Y:=bg D
  refine gQ ?_;exact λu d=>aX.cf ⟨b,o,_,p,t,q,s,h⟩ ⟨a.mono aa,λz e=>by cases e;rw[show cut=false from k.symm.trans bR,Eg j bR<|.inr rfl]⟩ rfl<|d.aF ah
  have Y:=bm D
  refine cn ?_;exact λu d=>aX.cf ⟨b,o,_,p,t,q,s,h⟩ ⟨a.mono aa,λz e=>by cases e;rw[show cut=false from k.symm.trans bR,Eg j bR<|.inr rfl]⟩ rfl<|d.aF ah
 | false=>
  refine ap ?_;intro O P Q;refine a6 ?_;refine cD rfl (λZ=>?_) λZ=>?_;refine ap ?_;exact λu d=>aX.cf ⟨b,o,_,p,t,q,s,h⟩ ⟨a.mono aa,λz e=>by cases e;rw[show cut=true from k.symm.trans bR,KA]⟩ rfl<|d.aF ah
  refine aH ?_;refine bd (v:= .agg rd.cells.toArray) (λf i=>by rw[j];exact Os.Kg f (H f<|i.has hM).os w.text I) ?_;refine av ?_;intro J U V;refine b6 ?_;refine (cj) (λE=>?_) λE=>?_;have Za:=E
  refine be ?_;exact λu d=>aX.cf ⟨b,o,_,p,rd.text,q,s,h⟩ ⟨⟨a.am,a.br,a.room,a.bt,A,by have:=a.bu;dsimp only at this ⊢;omega,by have:=a.buf;dsimp only at this ⊢;omega,a.aQ,a.md⟩,λz e=>by cases e;rw[show cut=false from k.symm.trans bR,KB j bR];rfl⟩ rfl<|d.aF ah
  have Za:=E
  refine aH ?_;refine bl 25 rfl (λF=>?_) λF=>?_;have Zb:=bg F
  refine gQ ?_;refine VP (hargs:=rfl) (Kz · g par X _ · a aa) λ⟨b,o,B,p,t,q,s,h⟩ a K=>?_;obtain rfl:B=false:=a_ cA.use<|K _ rfl
  refine aU ?_;refine d9 (q:=0) underlying117 rD rfl rfl rfl bo aa ?_;refine aA ?_;have Zf:0<=b.y/\b.y<=1000:=by have L:=a.am.ok.y;have M:=vc a.am.ok;simp only[bA.abs,a1.rows] at *;omega
  have Zg:0<=b.az.r.n/\b.az.r.n<=100000:=by have L:=a.am.g.r.n;have M:=a.am.g.r.len;have Zc:=a.am.g.r.room;dsimp only at L M Zc;omega
  have Zh:h.l.length<=m:=by have:=a.bu;dsimp only at this;omega
  refine aI ?_;refine bd (λf i=>kj f b<|i.fk (l:=a8 b) hL Has.head) ?_;refine lM (t:=44) (off:=0) ak fF rfl rfl rfl ?_;refine av ?_;intro Zd Zi Zj;refine a7 ?_;refine bN [0,1,2] 3 [[(3,false,[]),(4,false,[5,6]),(7,true,[])]] ?_;refine aI ?_;refine bd (λf i=>kc f b<|i.fk (l:=a8 b) j4 Has.head) ?_;refine ap ?_;refine bd (λf i=>oL f b.az (i.fk (l:=a8 b) j4<|Has.tail Has.head)<|(i.fk (l:=a8 b) j4 (Has.tail<|Has.tail Has.head): (aZ<|cP b.az.r).pred f) b.az.r.aq au) ?_;refine be ?_;refine fg [0,1,2,3,4,5,6,7,8] 3 [[(9,false,[]),(10,false,[11,12]),(13,true,[])]] (_) mixed ak (λ_ d=>d.drew) (λ_ v=>(show ag _ _ [aG Zd _ 44,aG J _ 228,eu g par _] _ from v.aF ah)) ?_;refine bP ?_;refine ef (E:=ne) ⟨_,_,_,_,_,_,_,_,_,_⟩ s4 rfl rfl rfl rfl rfl λZk Zl Zm=>?_;refine cv (λ_=>True) (λ_ v=> .inr<|v.aF ah) (λ_ v=>bh) ?_;refine aA ?_;refine fu (E:=ne) s4 rfl rfl rfl bx (λ_ _=>GG) cg cg λZn Zo=>?_;refine cv (λ_=>True) (λ_ v=> .inr ⟨.inr<|v.aF ah,dC⟩) (λ_ v=>bh) ?_;refine be ?_;intro u d
  (refine aX.cf ⟨b,o,false,p,t,q,s,⟨_,_,h.l++[⟨true,rd.kind,rd.code,rd.has,rd.text,b.y+b.az.r.n,b.x,0,0,0⟩]⟩⟩ ?_ rfl<|d.aF ah;exact VR a K j (k.symm.trans bR) bR bR A)
  have Zb:=bm F
  refine cn ?_;exact λu d=>aX.cf ⟨b,o,_,p,t,q,s,h⟩ ⟨a.mono aa,λz e=>by cases e;rw[show cut=false from k.symm.trans bR,Eg j bR<|.inl aa]⟩ rfl<|d.aF ah
def VT(c:e6)(a b:Int): (bj.tx B c (bj.fV a)<|bj.fV b).length<=1000:=by
 have d:=vR (bj.fV a+1) (by have:=bj.nU a;omega)
 have e:=vR (bj.fV b+1) (by have:=bj.nU b;omega)
 have f:=bj.zY c
 unfold bj.tx;split
 split <;> simp <;> omega
 split <;> simp <;> omega
def VU(i:bc c (b0 h E r j))(k:n9 r w)(d:cK h e a j)(z:a<=1460000000000):
 ay 117 [ptr h,.agg w.enc.toArray] c (js h E r e (a+1000) (.tuple #[]) j c):=by
 have l:=k.q1
 have m:=VT w.text<|bj.W ⟨j.am.bk.at_.cM,j.am.bk.at_.fn,j.am.bk.at_.aq,j.am.bk.at_.aR,j.am.bk.at_.bB⟩
 refine bX func117 ntmps117 i ?_;refine ap ?_;intro A B C;refine aY ?_;focus (refine bl 8 rfl (λf=>?_) λf=>?_;(focus have n:=bg f;refine aY ?_;refine bl 13 rfl (λg=>?_) λg=>?_;(focus have o:=bg g;refine a6 ?_;refine (cj) (λp=>?_) λp=>?_;refine ap ?_;refine cU (gl · h E j ·) ?_;refine bd (λb q=>kj b j.am<|q.fk (l:=a8 j.am) cW Has.head)<|av ?_;intro D F G;refine fR yU rfl rfl (by rw[Ap];exact bC.head) rfl (aV.cons rfl<|aV.cons rfl<|aV.cons rfl<|aV.cons rfl<|aV.cons rfl<|aV.cons rfl<|aV.cons rfl<|aV.cons rfl<|aV.cons rfl<|hg rfl rfl rfl rfl rfl rfl rfl rfl rfl rfl) (by exact ej rfl) ?_;refine aU ?_;refine cE (vs:=[ad j.am.bk.at_.cM,ad j.am.bk.at_.fn,ad j.am.bk.at_.aq,ad j.am.bk.at_.aR,ad j.am.bk.at_.bB]) s3 rfl rfl rfl (λH s t u v=>s.mI (sz:=5) (o:=2) (xs:=jO j.am) bw rfl t u v)<|a7 ?_;refine cU (λb x=>bj.Uo b (l b x).it w.text ⟨j.am.bk.at_.cM,j.am.bk.at_.fn,j.am.bk.at_.aq,j.am.bk.at_.aR,j.am.bk.at_.bB⟩ _ _) ?_;refine Kj (hargs:=rfl) (q0 · h E r j · d _ aa (m _ _)) λj d=>?_;all_goals (refine aA ?_));rotate_left 2;have o:=bm g;refine a6 ?_);rotate_left 3;have n:=bm f;refine cZ ?_;all_goals (intro I y;exact eV j (d.mono aa) y))
def KC(i : bc c (b0 h E r j))(b : cK h e a j)(k : a <= 1460000000000) :
 ay 64 [ptr h] c (aX (fun d : bM × pJ => d.2.val) (b0 h E r j) (fun d => d.2.aD :: b0 h E r d.1) (fun d => cK h e a d.1 /\ d.2.l = (ju j.abs).aQ /\ d.1.abs = { ju j.abs with aQ := [] } /\ d.2.l.length <= a /\ ∀ m ∈ d.2.l, m.text.length <= 256) c) := by
 refine bX func64 ntmps64 i ?_
 refine gQ ?_
 refine VQ (Kz · h E r _ · b k) (fun ⟨n, o, p, q, s, t, u, aQ⟩ b f => ?_)
 have f := f _ rfl
 have g := b.bu
 refine wP ?_
 intro w v
 refine aX.cf (⟨n, o, p, q, s, t, u, ⟨none, 0, []⟩⟩, aQ) ⟨⟨b.am, b.br, b.room, b.bt, b.cy, ?_, b.buf, by simp, b.md⟩, ?_, ?_, ?_, b.aQ⟩ rfl ((v.e4 234 ne).aF ah)
 ·dsimp only [List.length_nil] at g ⊢; omega
 ·rw [<- f]; rfl
 ·rw [<- f]; rfl
 ·dsimp only at g ⊢; omega
def q4 :Option FuncId:=
 if o=0 then some 112 else if o=1 then some 113 else if o=2 then some 114 else if o=3 then some 115 else
 if o=4 then some 116 else if o=5 then some 117 else none
def vV :Value:=match q4 o with | some a=> .func (.func a) [ptr h].toArray ([]:List Value).toArray | none=> .nilFunc
def KD :ay 48 [ptr h,ad o] c (Pure (vV h o) c):=by
 refine ba func48 ntmps48 ?_;refine gQ ?_;focus (refine (cj) (λa=>?_) λa=>?_;refine bP ?_;rotate_left;refine aH ?_;refine (cj) (λb=>?_) λb=>?_;refine bP ?_;rotate_left;refine aH ?_;refine (cj) (λd=>?_) λd=>?_;refine bP ?_;rotate_left;refine aH ?_;refine (cj) (λe=>?_) λe=>?_;refine bP ?_;rotate_left;refine aH ?_;refine (cj) (λf=>?_) λf=>?_;refine bP ?_;rotate_left;refine aH ?_;refine (cj) (λg=>?_) λg=>?_;refine bP ?_;rotate_left;refine be ?_;all_goals (intro j i;refine⟨?_,i.ext⟩;congr 1;unfold vV q4;simp_all))
def gV(a:fW):Option cA:=
 if a.kind=0 then some { D with am:=ke D.am a.r } else if a.kind=1 then AP D a.byte else if a.kind=4 then some (pV D a.text a.cut) else if a.kind=3 then q3 D a else
 if a.kind=2\/a.kind=5 then none else some D
def js.c7(c:js a F x e M (.tuple #[]) u H G O)(d:M<=N)(f:C=none):n_ a F x e N u C H G O:=by
 obtain⟨g,h,i,j⟩:=c;exact⟨g,⟨h.mono d,λk b=>by rw[f] at b;cases b⟩,i,j⟩
def n_.mono{k:Nat}{b:Option cA}(d:n_ a F x e M u C H G O)(f:M<=k)(g:b=C):n_ a F x e k u b H G O:=by
 subst g;obtain⟨h,c,i,j⟩:=d;exact⟨h,⟨c.1.mono f,c.2⟩,i,j⟩
def VV(k:bc c (b0 h E r j))(n:n9 r w)(l:cK h e a j)(s:a<=1430000000000){o:FuncId}(b:q4 w.kind=some o):
 Calls prog o [ptr h,.agg w.enc.toArray].toArray c (n_ h E r e (a+4000000) j (gV j.abs w.abs) c):=by
 unfold q4 at b
 have m:w.abs.kind=w.kind:=rfl
 split at b
 rename_i f;cases b
 exact (VM c h E r j k l aa w).mono λ_ _ d=>d.mono aa (by rw[gV,m,aB f];rfl);split at b
 rename_i g f;cases b
 exact (VN c h E r j k n.q1 l aa w).mono λ_ _ d=>d.mono aa (by rw[gV,m,ai g,aB f];rfl);split at b
 rename_i g i f;cases b
 exact (Vv c h E r j k n l aa).mono λ_ _ d=>d.c7 aa (by rw[gV,m,ai g,ai i,ai aa,ai aa,aB aa]);split at b
 rename_i g i d f;cases b
 exact (VL c h E r j k n l aa).mono λ_ _ d=>d.mono aa (by rw[gV,m,ai g,ai i,ai aa,aB f]);split at b
 rename_i g i d p f;cases b
 exact (VS c h E r j k n l aa).mono λ_ _ d=>d.mono aa (by rw[gV,m,ai g,ai i,aB f];rfl);split at b
 rename_i g i d p q f;cases b
 exact (VU c h E r j k n l aa).mono λ_ _ d=>d.c7 aa (by rw[gV,m,ai g,ai i,ai q,ai aa,aB aa]);cases b
theorem VW{f:FuncId}(a:q4 e=some f):dX prog f:=by
 unfold q4 at a
 repeat' split at a
 all_goals cases a
 ·exact cL
 ·exact cL
 ·exact cL
 ·exact cL
 ·exact cL
 ·exact cL
def kY(a:fv × Int × d4 × cA)(c:UInt8):Option (fv × Int × d4 × cA):=
 if a.2.2.1.eH=0/\a.2.2.1.fN=0/\(c.toNat:Int)<128 then (dZ a.1 a.2.1 o c).bind λb=>(b.2.foldlM gV a.2.2.2).bind λd=>some (b.1.1,b.1.2,a.2.2.1,d)
 else if a.2.1=0/\128<=(c.toNat:Int) then (iG a.2.2.1 c).bind λb=>(vA b.2).bind λe=>(e.foldlM gV a.2.2.2).bind λd=>some (a.1,0,b.1,d)
 else none
def vW(c:cA)(d:List UInt8)(b:ck)(e:cA):Prop:=
 ∀a,d.foldlM (kY y.most) (y.h,y.state,y.dec,c)=some a->b.h=a.1/\b.state=a.2.1/\b.dec=a.2.2.1/\e=a.2.2.2
def vW.step{d i:ck}{v:cA}{j:UInt8}{db:List fW}(u:vW z K k d U)(w:d.most=z.most)(l:kW d j i db)(m: ∀e,db.foldlM gV U=some e->v=e):vW z K (k++[j]) i v:=by
 intro e n;rw[rk] at n
 obtain⟨o,x,p⟩:=k7.1 n;obtain⟨q,r,s,t⟩:=u o x;simp only[lu,List.foldlM_nil] at p
 obtain⟨D,a,y⟩:=k7.1 p;cases y
 rw[<-w] at a
 obtain⟨E,F,G,H⟩:=o;dsimp only at q r s t
 subst q r s t;unfold kY at a
 split at a
 rename_i c;obtain⟨f,g,a⟩:=k7.1 a;obtain⟨A,h,a⟩:=k7.1 a;cases a
 have b:=l.2.1 c.1 c.2.1 f g
 exact⟨b.2.1,b.2.2.1,b.1,m _<|by rw[b.2.2.2];exact h⟩;split at a
 rename_i c;obtain⟨f,g,a⟩:=k7.1 a;obtain⟨B,C,a⟩:=k7.1 a;obtain⟨A,h,a⟩:=k7.1 a;cases a
 have b:=l.2.2 c.1 c.2 f B g C
 exact⟨b.2.1,b.2.2.1,b.1,m _<|by rw[b.2.2.2];exact h⟩;cases a
section
variable {cs':List Chunk}{ι:Type}{args:List Operand}{di:Array TypeId}{f:FuncId}{vs:List Value}{v:ι->Value}{l0:List Chunk}{ok:ι->Prop}
def KE{H:World->Prop}{b c:Operand}{e h:TypeId}{f:Value}{r:Bool}(i: ∀a,(binOp .neq e f .nilFunc).run P a= .ok (.bool r) a)(j:Nat.blt d n=true)(k:bi l b=some f)(m:bi l c=some .nilFunc)
 (o:aM P n ops Q rest ((d,.bool r)::l) H):aM P n ops Q (⟨some d,.binOp .neq e b c h,ty,pos,bf,none⟩::rest) l H:=
 dB _ j (λp a g=>by
  have:=i a
  simp[execOp,g b _ k,g c _ m,eqGuard,this]) o
end
def VX{e:eO}(c: ∀w,x.pred w->eS.pred w/\A.cw.pred w)(f: ∀a,a∈A.cw.cT->a∈x.cT)(d:e∈A.l)(g:n0 e):n9 x e:=by
 refine⟨λw b=>(c w b).1.2,λw b=>?_,g⟩;have h:e.nums.aQ.pred w:=(c w b).2 _<|ei.2 ⟨e,d,rfl⟩
 exact h.2.d8 λa i=>f a<|er.2 ⟨e.nums.aQ,ei.2 ⟨e,d,rfl⟩,p8.2 ⟨i.1,aa⟩⟩
abbrev tP(a:hH):Chunk:=aZ [eS,a.cw]
abbrev fl :List Chunk:=aZ (eB y)::b0 h E eS j
structure Fd (p:ck) (g par:Nat) (R:Int) (m:Nat) (T:bM) (L:List UInt8) (i:ck × bM):Prop where
 az:i.1.g=p.g
 wf:gK i.1
 most:i.1.most=p.most
 ok:cK g R m i.2
 R:vW p T.abs L i.1 i.2.abs
def Fd.full{n:Nat}{i:ck × bM}(b:Fd z a F e (M+8000000*N) u (k.take N) i)(c:N=n)(d:k.length=n):Fd z a F e (M+8000000*n) u k i:=by
 subst c;rw[eT aa] at b
 exact b
def VY{P:Nat}(b:P=y.g)(d:bc c (eB y))(e:gK y)(a:UInt8):ay 47 [ptr P,.int .u8 (a.toNat:Int)] c (eg y 2 (kW y a) c):=by
 subst b;exact Tz c y d e a
def VZ{b w:World}{S:List Nat}(c:ag b S (aZ (vy z A)::b0 a F eS u) w):ag b S (aZ (eB z)::A.aD::b0 a F (tP A) u) w:=
 (((c.open (l:=vy z A) bx).close (l:=eB z) ah).close (l:=[eS,A.cw]) ah).aF ah
def V0{b w:World}{S:List Nat}(c:ag b S (aZ (eB z)::A.aD::b0 a F (tP A) u) w):ag b S (fl z a F u) w:=
 (c.open (l:=[eS,A.cw]) BZ).aF ah
def V1{e:eO}(b:e∈A.l)(c:n0 e):n9 (tP A) e:=
 VX (λf a=>⟨a eS au,a A.cw au⟩) (λg d=>er.2 ⟨A.cw,by simp,d⟩) b c
def KF{b:List fW}{c:fW}(f:b[a]? = some c){v:cA}(g: ∀r,(b.take a).foldlM gV K=some r->v=r)(h: ∀r,gV v c=some r->U=r): ∀r,(b.take<|a+1).foldlM gV K=some r->U=r:=by
 intro r d;rw[hA,f,rk] at d
 obtain⟨i,j,e⟩:=k7.1 d;cases g i j
 simp only[rp,lu,List.foldlM_nil] at e
 obtain⟨m,k,l⟩:=k7.1 e;cases l
 exact h _ k
def V2{t:cA}(b:q4 w.kind=none):gV t w.abs=some t:=by
 have c:w.abs.kind=w.kind:=rfl
 unfold q4 at b
 have a: ¬w.kind=0/\ ¬w.kind=1/\ ¬w.kind=2/\ ¬w.kind=3/\ ¬w.kind=4/\ ¬w.kind=5:=by
  refine⟨?_,?_,?_,?_,?_,?_⟩ <;> (intro d;simp[d] at b)
 rw[gV,c,ai a.1,ai a.2.1,ai a.2.2.2.2.1,ai a.2.2.2.1,ai aa]
set_option maxHeartbeats 1000000 in
def KG(b:ck)(o:bM)(V:bc c (fl b h b.g o))(W:gK b){u:Int}(X:cK h u a o)(C:Option Addr)(n D:Nat)(w:List UInt8)(M:Rd cI c (λY=>Y∉aK (fl b h b.g o)) C n D w)(Zp:n<=165000)(Zq:a<=100000000000):
 ay 13 [ptr h,.slice C n D] c (aX (λ_:ck × bM=> .tuple #[]) (fl b h b.g o) (λi=>fl i.1 h b.g i.2) (Fd b h b.g u (a+8000000*n) o w) c):=by
 have Zr:=M.len
 refine bX func13 ntmps13 V ?_;refine gQ ?_;refine cd (ι:=Nat × ck × bM) (λd=>[(0,ptr h),(11,.slice C n D),(12,ad (n:Int)),(13,ad (d.1 :Int))]) (λd=>ag c (aK<|fl b h b.g o)<|fl d.2.1 h b.g d.2.2) (λd=>d.1<=n/\Fd b h b.g u (a+8000000*d.1) o (w.take d.1) d.2) (λd=>n - d.1) ?_ ?_;exact λZ G=>⟨(0,b,o),⟨b4 _,rfl,W,rfl,X,λq r=>by simp at r;subst r;exact⟨rfl,rfl,rfl,rfl⟩⟩,(da rfl rfl rfl rfl),G⟩
 rintro⟨i,H,E⟩ ⟨Za,p⟩;dsimp only at Za p ⊢
 refine (aE) (λZb=>?_) λZb=>aI ?_;obtain⟨Zc,N⟩ : ∃v,w[i]? = some v:=⟨w[i]'aa,bD _⟩;obtain⟨Zs,Zd,Ze,Zf⟩:=M.at_ N;refine aH ?_;refine bE (q:=i) hC rfl rfl rfl Zd rfl aa ?_;refine bb pg rfl rfl (λZt Zg=>Zg.ch (Zf 0 _ rfl)<|by simp only[block_add];exact Ze) ?_;refine be ?_;refine ml (ι:=ck × hH) (l0:=eB H) (l':=λi=>vy i.1 i.2) (cs1:=λi=>aZ (vy i.1 i.2)::b0 h b.g eS E) (λi=>bC.head) (λs x=>VY s H p.az.symm (x.mj Has.head) p.wf Zc) λ⟨O,j⟩ t=>aI ?_;refine cd (ι:=Nat × bM) (λd=>[(0,ptr h),(11,.slice C n D),(12,ad (n:Int)),(13,ad (i:Int)),(22,j.val),(23,ad (j.l.length:Int)),(24,ad (d.1 :Int))]) (λd=>ag c (aK<|fl b h b.g o)<|aZ (eB O)::j.aD::b0 h b.g (tP j) d.2) (λd=>d.1<=j.l.length/\cK h u (a+8000000*i+4000000*d.1) d.2/\ ∀q,((j.l.map eO.abs).take d.1).foldlM gV E.abs=some q->d.2.abs=q) (λd=>j.l.length - d.1) ?_ ?_;exact λZ G=>⟨(0,E),⟨b4 _,p.ok,λq r=>by simp at r;exact r⟩,(jg rfl rfl rfl rfl rfl rfl rfl),VZ G⟩
 rintro⟨m,y⟩ ⟨z,F,A⟩;have Zu:j.l.length<=2:=t.len
 dsimp only at z F A ⊢
 refine (aE) (λZh=>?_) λZh=>be ?_;obtain⟨e,P⟩ : ∃e,j.l[m]? = some e:=⟨j.l[m]'aa,bD _⟩;have Q:=cR P
 have Zi:=V1 Q<|t.ok e Q
 have S: (j.l.map eO.abs)[m]? = some e.abs:=by rw[fw,P];rfl
 cases B:q4 e.kind with
 | none=>
  have I:vV h e.kind= .nilFunc:=by unfold vV;rw[B]
  refine aH ?_;refine ik (E:=fO) cz iA rfl rfl rfl bo aa λZj J=>?_;refine cE Ge rfl rfl rfl (λZk K m L z=>K.hG (E:=fO) cz J bR m L z) ?_;refine av ?_;intro Zl Zm Zn;refine aY ?_;refine bd (λs x=>(by have k:=KD s h e.kind;rw[I] at k;exact k)) ?_;refine aH ?_;refine KE (r:=false) (λc=>by kernel_rfl) rfl rfl rfl ?_;refine be ?_;exact bv (m+1,y) ⟨aa,F.mono bL,KF S A λq r=>by rw[V2 B] at r;cases r;rfl⟩ bL b5 λ_ k=>k.aF ah
 | some f=>
  have I:vV h e.kind= .func (.func f) [ptr h].toArray ([]:List Value).toArray:=by unfold vV;rw[B]
  refine aH ?_;refine ik (E:=fO) cz iA rfl rfl rfl bo aa λZj J=>?_;refine cE Ge rfl rfl rfl (λZk K m L z=>K.hG (E:=fO) cz J bR m L z) ?_;refine av ?_;intro Zl Zm Zn;refine aY ?_;refine bd (λs x=>(by have k:=KD s h e.kind;rw[I] at k;exact k)) ?_;refine aH ?_;refine KE (r:=true) (λc=>by kernel_rfl) rfl rfl rfl ?_;refine aH ?_;refine k_ (ι:=bM) (v:=λ_=> .tuple #[]) (l0:=b0 h b.g (tP j) y) (l':=b0 h b.g<|tP j) (ok:=λT=>cK h u (a+8000000*i+4000000*m+4000000) T/\ ∀q,gV y.abs e.abs=some q->T.abs=q) ah rfl rfl (VW B) rfl (λs x=>VV s h b.g (tP j) y (x.cb ah) Zi F aa B) λZo U=>?_;refine aU ?_;exact bv (m+1,Zo) ⟨aa,U.1.mono bL,KF S A U.2⟩ bL b5 λ_ k=>k.aF ah
 exact bv (i+1,O,y) ⟨aa,t.g.trans p.az,t.wf,t.most.trans p.most,F.mono aa,by rw[hA,N];exact p.R.step p.most t.R<|by rw[eT (by simp;omega)] at A;exact A⟩ bL b5 λ_ k=>V0 k;exact bT (H,E)<|p.full aa aa
