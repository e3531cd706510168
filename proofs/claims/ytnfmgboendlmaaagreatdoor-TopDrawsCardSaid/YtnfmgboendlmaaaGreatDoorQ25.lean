/- part 25 of the proof -/
import Derived.Test.YtnfmgboendlmaaaGreatDoorQ19
import Derived.Shelf.Strconv.Itoa3
import Derived.Lib.ItoaLen
import Derived.Lib.Join
import Derived.Lib.JoinLaws
import Derived.Lib.AtoiAllCases
import Derived.Lib.ParseIntBCases
import Derived.Shelf.Strings.Split
import Derived.Shelf.GgClosure.StringsIndexFuncTop
import Derived.Lib.ConvBytes
import Derived.Lib.AtoiErrMem
import Derived.Laws.AppendOwn
import Derived.Shelf.Strconv.ErrVarAll
import Derived.Shelf.Lays2
import Derived.WideLaws
import Derived.Stop.IfaceNil
import Derived.HandedShaped
import Derived.Handed
import Derived.Shelf.Vars
set_option linter.all false
namespace Go.Proofs.YtnfmgboendlmaaaGreatDoor.Mq
open RowKit Tryz
variable {b:World}{S:List Nat}{cs:List Chunk}{P:Program}{n d:Nat}{ops:Array Oper}{Q:cN}{rest:List Oper}{l:Fr}{ty:TypeId}{pos:String}{bf:Array Edge}
variable {t:Assume}{z:Bool}{v:ChangeSpec}{u:FuncId}{f:Int}{y:List PathCond}{g:List UInt8}{h:List Value}{a m:Nat}{r:Type}{j:TypeId}{s:Value}{k:World}(c:World)(o:Int)(q:Nat)(e:UInt8)(i:e6)(p:List UInt8)
namespace bj
def W :e6:={ i with bB:=IntKind.i64.wrap i.bB }
def Au :ez (W i)=(ee i.cM i.fn && (ee i.aq i.aR && decide (0<=IntKind.i64.wrap i.bB/\IntKind.i64.wrap i.bB<1024/\ ¬(iF (IntKind.i64.wrap i.bB).toNat 8=true/\iF (IntKind.i64.wrap i.bB).toNat 256=true)))):=rfl
def Ul : -9223372036854775808<=IntKind.i64.wrap o/\IntKind.i64.wrap o<=9223372036854775807:=by
 simp[IntKind.wrap,IntKind.bits,IntKind.signed];omega
def DY(z:Int):BitVec.ofInt IntKind.i64.bits (IntKind.i64.wrap z)=BitVec.ofInt IntKind.i64.bits z:=by
 apply BitVec.eq_of_toNat_eq
 rw[BitVec.toNat_ofInt,BitVec.toNat_ofInt];congr 1
 simp[IntKind.wrap,IntKind.bits,IntKind.signed]
 omega
def JL :IntKind.i64.wrap ((BitVec.ofInt IntKind.i64.bits f &&& ~~~ BitVec.ofInt IntKind.i64.bits 1023).toNat:Int)=0↔0<=IntKind.i64.wrap f/\IntKind.i64.wrap f<1024:=by
 rw[<-DY f];exact Rw<|Ul f
def Um(a:0<=IntKind.i64.wrap f/\IntKind.i64.wrap f<1024):IntKind.i64.wrap ((BitVec.ofInt IntKind.i64.bits f &&& BitVec.ofInt IntKind.i64.bits 264).toNat:Int)=(((IntKind.i64.wrap f).toNat &&& 264 :Nat):Int):=by
 rw[<-DY f];exact Ry a
def Un(b:IntKind.i64.wrap f=(a:Int))(c:a<1024)(d:m<1024):IntKind.i64.wrap ((BitVec.ofInt IntKind.i64.bits f &&& BitVec.ofInt IntKind.i64.bits (m:Int)).toNat:Int)=((a &&& m:Nat):Int):=by
 rw[<-DY f,b];exact RA c d
def JM :ay 159 [r6 i] c (λk l=>k= .returned (.bool<|ez<|W i)/\Ext [] c l):=by
 refine ba func159 ntmps159 ?_;refine ap ?_;intro m n o;refine b6 ?_;refine bF (Il · i.cM i.fn)<|av ?_;refine bl 7 rfl (λe=>aI ?_) λe=>qp ?_;refine bF (Il · i.aq i.aR)<|aA ?_;refine bl 12 rfl (λf=>aI ?_) λf=>gQ ?_;refine uG rfl rfl rfl rfl<|a7 ?_;refine bl 18 rfl (λg=>?_) λg=>?_;have h:=bg g
 have b:=JL.1 h
 refine aU ?_;refine rI rfl rfl rfl (Um b)<|be ?_;intro j a;refine⟨?_,a.ext⟩;congr 2
 rw[Rx _ aa,Au,e,f];simp[b.1,b.2]
 have h:=bm g
 refine b6 ?_;intro j a;refine⟨?_,a.ext⟩;congr 2
 have b: ¬(0<=IntKind.i64.wrap i.bB/\IntKind.i64.wrap i.bB<1024):=λd=>h<|JL.2 d
 rw[Au,eq_comm,wq,wq,fZ];exact .inr<|.inr λd=>b ⟨d.1,d.2.1⟩;exact λj a=>⟨by rw[Au,f];simp,a.ext⟩
 exact λj a=>⟨by rw[Au,e];simp,a.ext⟩
def JN(S:fJ c)(i:e6):
 ay 160 [r6 i] c (λT d=>T= .returned (.string<|bs<|lg<|W i)/\Ext [] c d):=by
 refine ba func160 ntmps160 ?_;refine ap ?_;intro z Zv A;refine aU ?_;refine bF (JM · i)<|ap ?_;refine cD rfl (λr=>aY ?_) λr=>?_;exact λU s=>⟨by rw[lg,ai<|by simpa using r],s.ext⟩
 have B:ez (W i)=true:=by simpa using r
 rw[lg,aB B];obtain⟨f,g,aq,aR,n⟩:=i;have C:=B
 simp only[ez,dK,eQ] at C
 obtain⟨D,E,V,A,_⟩:=C;dsimp only[W] at V A
 obtain⟨b,F⟩ : ∃m:Nat,IntKind.i64.wrap n=m:=⟨(IntKind.i64.wrap n).toNat,aa⟩;have X:W ⟨f,g,aq,aR,n⟩=⟨f,g,aq,aR,(b:Int)⟩:=by simp only[W,F]
 rw[X];have o:b<1024:=by omega
 refine aI ?_;intro Zw Zx Zy;refine aI ?_;refine Od (m:=1) (sz:=1) cJ rfl aW<|b6 ?_;intro G Zz ZA;refine aI ?_;refine cd (ι:=Nat × Value) (λh=>[(1,.pointer<|some ⟨z,0,none⟩),(3,h.2),(20,.slice (some ⟨G,0,none⟩) 10 10),(21,ad 10),(22,ad (h.1 :Int))]) (λh=>ag c [] [aG G (ps.all nV) 305,own 3 1 h.2 (0::kS b h.1).length<|ct.all<|0::kS b h.1,aG z [ad f,ad g,ad aq,ad aR,ad n] 79]) (λh=>h.1<=10) (λh=>10 - h.1) ?_ ?_;exact λd a=>⟨(0,_),b4 _,(en rfl rfl rfl rfl rfl),a⟩
 rintro⟨e,Y⟩ t;dsimp only at t ⊢
 refine (aE) (λj=>?_) λj=>?_;obtain⟨p,q⟩ : ∃p,nV[e]? = some p:=⟨nV[e]'(by show e<10;omega),bD _⟩;have u:=cR q
 have Z:=Iq p u
 have Za:=zX b e
 have Zb: (0::kS b e).length<=11:=by simp only[dV];omega
 refine aH ?_;refine bE (q:=e) uB rfl rfl rfl bo aa aa ?_;refine cE BL rfl rfl (rfl) (λd a Zc Zd Ze=>by obtain⟨ZB,Zf,_,Zg⟩:=(Rd.iR (E:=ps) (L:=nV) a Has.head rfl aW).at_ q;cases Zf;exact Zg Zc Zd Ze) ?_;refine av ?_;intro ZC ZD ZE;refine aU ?_;refine sQ (q:=1) underlying305 ic rfl rfl rfl aa aa<|bb bY rfl rfl (λd a=>a.e8 Has.head rfl)<|rI (r:=((b &&& p.2 :Nat):Int)) rfl rfl rfl (Un F o Z.1) ?_;refine (aE) (λv=>?_) λv=>?_;have w:iF b p.2=true:=by rw[<-Ip p u b o];exact bI v
 refine aA ?_;refine sQ (q:=0) underlying305 ic rfl rfl rfl aa aa<|bb bY rfl rfl (λd a=>a.e8 Has.head rfl)<|av ?_;intro ZF ZG ZH;refine hW eE rfl rfl rfl bx (λ_=>by exact l4) rfl (jE rfl) (by simp only[maxLen];omega) aa λZh ZI=>?_;refine aY ?_;refine bv (e+1,Zh) bL bL (en rfl rfl rfl rfl rfl) λd a=>?_;dsimp only;rw[Io q,aB w,<-nz,b1.iP ct,b3];exact a.rem bH.head;have w: ¬iF b p.2=true:=by rw[<-Ip p u b o];simpa using v
 refine aU ?_;refine bv (e+1,Y) bL bL (en rfl rfl rfl rfl rfl) λd a=>?_;dsimp only;rw[Io q,ai w];exact a.rem bH.head;have Zi:e=10:=by omega
 subst Zi;have Za:=zX b 10
 have Zb: (0::kS b 10).length<=11:=by simp only[dV];omega
 have ZJ:=vk f g 38
 have ZK:=vk aq aR 48
 refine be ?_;refine yN (λd a=>In d f g 38<|xl D) λZL H ZM I ZN J Zj ZO Zk K=>?_;have Zl:=K.len
 have L:Ext [] c H:=J.ext.eC Zj
 have x:=J.eU
 have ZP:=L.size
 refine qj (E:=ct) (src:=ii f g 38) eE rfl rfl rfl (λ_=>by exact fs) (λd a=>K.ext a.ext λe t y=>by have:=Zk e y;omega) (by simp only[maxLen];omega) aa λZQ ZR=>?_;refine aY ?_;refine yN (λd a=>In d aq aR 48<|xl E) λZS M ZT n6 ZU N Zm ZV Zn O=>?_;have Zo:=O.len
 have P:=N.eU
 have Zp:Ext _ H M:=N.ext.eC Zm
 have Q:Ext [] c M:=L.trans Zp (x · · ·)
 refine qj (E:=ct) (src:=ii aq aR 48) eE rfl rfl rfl (λ_=>by exact fs) (λd a=>O.ext a.ext λe t y=>by have:=Zn e y;omega) (by simp only[maxLen];omega) aa λZq ZW=>?_;refine kA (v:=Zq) (Has.tail Has.head) λZX ZY Zr _ _ _ _=>?_;subst Zr;have k: (0::kS b 10).length+I+n6<=1000:=by omega
 refine bd (v:= .string<|bs<|fK<|hP ⟨f,g,aq,aR,(b:Int)⟩) (λd a=>?_) ?_;have R:=a.has<|Has.tail Has.head
 rw[show ct.all (0::kS b 10)++ct.all (ii f g 38)++ct.all (ii aq aR 48)=ct.all (hP ⟨f,g,aq,aR,(b:Int)⟩) from by simp only[hP,b1.all_append];rfl] at R
 have Zs: (hP ⟨f,g,aq,aR,(b:Int)⟩).length=(0::kS b 10).length+I+n6:=by
  rw[<-Zl,<-Zo,hP,b3,b3];rfl
 obtain⟨ZZ,Z0,Zt,Zu⟩:=Rd.ho (E:=ct) R Zs;cases Zt
 exact Rz d (S.ext<|Q.trans a.ext λl k j=>x l (P l k aa) j) _ _ _ _ _ Zu k<|Ir D E o;refine aI ?_;exact λU s=>⟨rfl,Q.trans s.ext λl k j=>x l (P l k aa) j⟩
def Uo(k:fJ c)(l:List UInt8)(f:e6)(d e:Int):
 ay 198 [bU l,r6 f,ad d,ad e] c (λm g=>m= .returned (.string<|bs<|tx l (W f) (fV d)<|fV e)/\Ext [] c g):=by
 have p:=nU d
 have q:=nU e
 have r:=zY<|W f
 refine ba func198 ntmps198 ?_;refine ap ?_;intro s t u;refine (aE) (λh=>ap ?_) λh=>?_;refine bd (λg i=>JN g (k.ext i.ext) f) ?_;refine (aE) (λa=>aU ?_) λa=>aI ?_;refine eb rfl rfl rfl cg<|eb rfl rfl rfl cg<|eb rfl rfl rfl cg<|aU ?_;intro j b;refine⟨?_,b.ext⟩;rw[tx,aB h,ai (CS · a)];rfl
 refine eb rfl rfl rfl cg<|eb rfl rfl rfl cg<|eb rfl rfl rfl cg<|aU ?_;intro j b;refine⟨?_,b.ext⟩;rw[tx,aB h,aB (by
  cases n:ez (W f) with
  | true=>rfl
  | false=>exact absurd (by rw[lg,ai<|by simp[n]]) a)]
 simp
 refine (aE) (λa=>?_) λa=>be ?_;have v:=tv (n:=fV d+1) aa
 have w:=tv (n:=fV e+1) aa
 refine ap ?_;refine bF (vj · d)<|aA ?_;refine bF (vj · e)<|aA ?_;intro x y z;refine bd (hargs:=rfl) (λg i=>r5 g (k.ext i.ext) _ _ 2 2 [((fV d+1 :Nat):Int),((fV e+1 :Nat):Int)] (Rd.iR (E:=ct) i Has.head rfl aW) aW<|by intro A o;simp at o;omega) ?_;rw[CP];refine eb rfl rfl rfl cg<|eb rfl rfl rfl cg<|eb rfl rfl rfl cg<|aU ?_;intro j b;refine⟨?_,b.ext⟩;rw[tx,ai h,aB a];simp
 intro j b;refine⟨?_,b.ext⟩;rw[tx,ai h,ai a]
end bj
namespace Os
def afY: ∀(a:Nat),∀c∈Lib.decDigits a,48<=c.toNat/\c.toNat<=57:=by
 intro a;induction a using Nat.strongRecOn with
 | _ a d=>
  intro c b;rw[Lib.decDigits] at b
  split at b
  simp only[e0] at b
  subst b;simp
  omega
  rcases dq.1 b with h | h
  exact d (a/10) aa c h;simp only[e0] at h
  subst h;simp
  omega
def xM(l:List UInt8):Nat:=l.foldl (λa b=>10*a+(b.toNat - 48)) 0
def gU(a:UInt8):List UInt8->List (List UInt8)
 | []=>[[]]
 | c::b=>if c=a then []::gU a b else match gU a b with
  | []=>[[c]]
  | p::d=>(c::p)::d
def Up :gU e p≠[]:=by
 cases p with
 | nil=>simp[gU]
 | cons a p=>unfold gU;split <;> (try split) <;> simp
def Uq{sep:UInt8}(a:sep∉g)(post:List UInt8):gU sep (g++sep::post)=g::gU sep post:=by
 induction g with
 | nil=>simp[gU]
 | cons b g c=>
  have d: ¬b=sep:=λe=>a (by simp[e])
  rw[nz,gU,ai d,c λf=>a<|by simp[f]]
def Ur{sep:UInt8}(a:sep∉g):gU sep g=[g]:=by
 induction g with
 | nil=>rfl
 | cons b g c=>
  have d: ¬b=sep:=λe=>a (by simp[e])
  rw[gU,ai d,c λf=>a<|by simp[f]]
def lS :Nat:=10*q+(e.toNat - 48)
def DZ(l:List UInt8):xM l=l.foldl lS 0:=rfl
def JO: ∀(l:List UInt8)(a:Nat),a<=l.foldl lS a
 | [],_=>cC _
 | c::l,a=>by rw[ui];exact ge (by unfold lS;omega)<|JO l _
def qW :Bool:=decide<|48<=e.toNat/\e.toNat<=57
def JP(n:Int):Prop:= -9223372036854775808<=n/\n<=9223372036854775807
instance (n:Int):Decidable (JP n):=by unfold JP;exact inferInstance
def JQ: ∀(l:List UInt8)(a:Nat),(∀c∈l,qW c=true)->l.foldl lS a<18446744073709551616->Lib.parseUint10 a l= .ok (l.foldl lS a)
 | [],_,_,_=>rfl
 | c::b,a,d,e=>by
  have f:=bg<|d c au
  rw[ui] at e ⊢
  have i:=JO b<|lS a c
  have j:10*a<=lS a c:=by unfold lS;omega
  have g:a*10+(c.toNat - 48)=lS a c:=by unfold lS;omega
  unfold Lib.parseUint10;rw[aB f,ai aa,ai aa,g];exact JQ b _ (λx h=>d x<|by simp[h]) e
def JR:Shelf.Ren:=⟨λ| 138=>481 | 143=>482 | 146=>373 | 195=>495 | 197=>496 | 217=>449 | 218=>497 | 219=>479 | 221=>442 | 224=>493 | 225=>492 | 260=>504 | 266=>487 | 267=>494 | 268=>480 | 314=>503 | n=>n,λ| 0=>0 | 3=>3 | 4=>4 | 5=>5 | 9=>9 | 21=>21 | 31=>353 | 46=>276 | 51=>118 | 105=>478 | 119=>489 | 138=>491 | 139=>492 | 146=>481 | n=>n,λ| 1=>3 | 3=>4 | 4=>5 | n=>n⟩
def Us:Lays.n146 prog JR where
 mixed:=by kernel_rfl
 f138:=func481.trans<|a_ some ak
 f143:=func482.trans<|a_ some ak
 f146:=func373.trans<|a_ some ak
 f195:=func495.trans<|a_ some ak
 f197:=func496.trans<|a_ some ak
 f217:=func449.trans<|a_ some ak
 f218:=func497.trans<|a_ some ak
 f219:=func479.trans<|a_ some ak
 f221:=func442.trans<|a_ some ak
 f224:=func493.trans<|a_ some ak
 f225:=func492.trans<|a_ some ak
 f260:=func504.trans<|a_ some ak
 f266:=func487.trans<|a_ some ak
 f267:=func494.trans<|a_ some ak
 f268:=func480.trans<|a_ some ak
 f314:=func503.trans<|a_ some ak
 t0:=underlying0
 a0:=isAgg0
 z0:=sizeOf0
 v0:=zeroValue0
 t3:=underlying3
 a3:=isAgg3
 z3:=sizeOf3
 v3:=zeroValue3
 t4:=underlying4
 a4:=isAgg4
 z4:=sizeOf4
 v4:=zeroValue4
 t5:=underlying5
 a5:=isAgg5
 z5:=sizeOf5
 v5:=zeroValue5
 t9:=underlying9
 a9:=isAgg9
 z9:=sizeOf9
 v9:=zeroValue9
 t21:=underlying21
 a21:=isAgg21
 z21:=sizeOf21
 v21:=zeroValue21
 t31:=underlying353
 a31:=isAgg353
 z31:=sizeOf353
 v31:=zeroValue353
 t46:=underlying276
 a46:=isAgg276
 z46:=sizeOf276
 v46:=zeroValue276
 t51:=underlying118
 a51:=isAgg118
 z51:=sizeOf118
 v51:=zeroValue118
 t105:=underlying478
 a105:=isAgg478
 z105:=sizeOf478
 v105:=zeroValue478
 t119:=underlying489
 a119:=isAgg489
 z119:=sizeOf489
 t138:=underlying491
 a138:=isAgg491
 z138:=sizeOf491
 v138:=zeroValue491
 t139:=underlying492
 a139:=isAgg492
 z139:=sizeOf492
 v139:=zeroValue492
 t146:=underlying481
 a146:=isAgg481
 z146:=sizeOf481
 v146:=zeroValue481
 g1:=by kernel_rfl
 g3:=by kernel_rfl
 g4:=by kernel_rfl
def index_one(a:UInt8): ∀e:List UInt8,Lib.index e [a]=Lib.indexByte e a
 | []=>rfl
 | b::l=>by
  have c: [a].isPrefixOf (b::l)=(b == a):=by
   show (a == b && List.isPrefixOf [] l)=(b == a)
   rw[show List.isPrefixOf [] l=true by cases l <;> rfl,rh];by_cases d:b=a
   rw[d];rw[beq_eq_false_iff_ne.2 d,beq_eq_false_iff_ne.2 λc=>d c.symm]
  unfold Lib.index Lib.indexByte;rw[c,index_one a l]
def JS(a:UInt8)(f:Nat)(i:f=0): ∀(m:Nat)(b:List UInt8),b.length<=m->Lib.splitK [a] f (b.count a) b=gU a b
 | m,b,g=>by
  subst i;rcases xu b a with ⟨h,c⟩ | ⟨d,e,rfl,c,j⟩
  rw[List.count_eq_zero_of_not_mem h,Ur h];rfl
  have k: (d++a::e).count a=e.count a+1:=by
   rw[List.count_append,List.count_eq_zero_of_not_mem c,List.count_cons_self];omega
  rw[k,Uq c];unfold Lib.splitK;rw[index_one,j,ai au];cases m with
  | zero=>simp at g
  | succ m=>
   have l: ((d.length:Int)).toNat=d.length:=by omega
   rw[l,sJ,List.take_left',kt,<-ls,List.drop_left',List.drop_one,List.tail_cons,JS a 0 rfl m e<|by simp at g;omega];rfl
   rfl
def Ut(w:World)(a:Obj):Ext [] w (w.alloc a):=by
 refine⟨rfl,rfl,rfl,?_,λb c _=>?_⟩;show w.heap.size<=(w.heap.push a).size
 rw[Array.size_push];omega
 show (w.heap.push a)[b]? = w.heap[b]?
 rw[Array.getElem?_push,ai<|Nat.ne_of_lt c]
def tL(w:World):Prop:= ∃a:Int,w.cell? ⟨JR.g 1,0,none⟩=some (ad a)
def tL.ext{w:World}(b:tL w)(c:Ext [] w k):tL k:=by
 obtain⟨d,a⟩:=b;exact⟨d,by rw[c.cell (World.block_lt_of_cell? _ _ a) au];exact a⟩
def Uu(w:World)(h:tL w)(s:List UInt8)(c:UInt8)(q:s.length<=1000000):
 ay 373 [bU s,.string<|bs [c]] w (jC lI w<|gU c s):=by
 obtain⟨i,j⟩:=h;refine (Any.strings_Split Us ak (bs s) (bs [c]) i w (by rw[jf];omega) j<|by rw[jf];exact cC 1).mono ?_;rintro r t ⟨rfl,rfl⟩;have e:Lib.countB (bs s) (bs [c])=s.count c:=Lib.count_one c s
 have k: (Lib.splitB (bs [c]) 0 (s.count c)<|bs s).map (·.data.toList)=gU c s:=by
  rw[Lib.splitB_data];exact JS c 0 rfl _ s<|cC _
 have f: (Lib.splitB (bs [c]) 0 (s.count c)<|bs s)=(gU c s).map bs:=by
  rw[<-k,o8];conv=>lhs;rw[<-List.map_id (Lib.splitB (bs [c]) 0 (s.count c)<|bs s)]
  exact sD λx _=>(bs_self x).symm
 have l: (gU c s).length=s.count c+1:=by
  have:=Lib.splitB_all (bs [c]) (by rw[jf];exact cC 1) 0 (s.count c) (bs s) e
  rw[f,c8] at this
  exact this
 have u:s.count c<=s.length:=List.count_le_length
 refine⟨_,_,_,rfl,Ut _ _,?_⟩;rw[e,f];refine⟨l,cC _,by simp only[maxLen];omega,λ_=>⟨_,rfl,cC _,λb a d m n g=>?_⟩⟩;have o:d=0/\m=bU a:=by
  cases d with
  | zero=>exact⟨rfl,by simpa [lI] using g.symm⟩
  | succ d=>simp[lI] at g
 obtain⟨rfl,rfl⟩:=o;have p: ((((gU c s).map bs).map Value.string).toArray)[b]? = some (Value.string<|bs a):=by
  rw[List.getElem?_toArray,fw,fw,n];rfl
 rw[Addr.add_lit,Addr.add_lit,World.cell?_alloc_new,show 0+b*lI.ax+0=b from by show 0+b*1+0=b;omega];exact p
def JT(w:World)(b a:List UInt8)(i:b.length<=9223372036854775807)(j:a.length<=9223372036854775807):ay 451 [bU b,bU a] w (λc g=>c= .returned (.bool<|decide<|b.take a.length=a)/\Ext [] w g):=by
 refine ba func451 ntmps451 ?_;refine cn ?_;refine bl 10 rfl (λd=>?_) λd=>?_;have f:=bg d
 refine aU ?_;refine sS a.length underlying9 rfl rfl rfl bo aa<|be ?_;exact λh e=>⟨rfl,e.ext⟩
 have f:=bm d
 refine b6 ?_;intro h e;refine⟨?_,e.ext⟩;rw[bJ λc=>f (by have:=a_ List.length c;simp at this;omega)]
def Uv(w:World)(b a:List UInt8)(e:b.length<=9223372036854775807)(f:a.length<=9223372036854775807):ay 380 [bU b,bU a] w (λg h=>g= .returned (.tuple #[bU (if b.take a.length=a then b.drop a.length else b),.bool<|decide<|b.take a.length=a])/\Ext [] w h):=by
 refine ba func380 ntmps380 ?_;refine bP ?_;refine bF (JT · b a e f)<|ap ?_;by_cases c:b.take a.length=a
 refine ff rfl ((by rw[bI c];rfl)) ?_;have j:a.length<=b.length:=by have:=a_ List.length c;simp at this;omega
 refine aU ?_;refine sR a.length underlying9 rfl rfl rfl bo aa<|aH ?_;exact λi d=>⟨by rw[aB c,bI c],d.ext⟩
 refine e_ rfl ((by rw[bJ c];rfl)) ?_;refine be ?_;exact λi d=>⟨by rw[ai c,bJ c],d.ext⟩
def JU(w:World)(b a:List UInt8)(c:b.length<=9223372036854775807)(d:a.length<=9223372036854775807):ay 302 [bU b,bU a] w (λe f=>e= .returned (.tuple #[bU (if b.take a.length=a then b.drop a.length else b),.bool<|decide<|b.take a.length=a])/\Ext [] w f):=by
 refine ba func302 ntmps302 ?_;refine be ?_;refine bF (Uv · b a c d)<|aY ?_;exact λh g=>⟨rfl,g.ext⟩
def JV(d:UInt8): ∀b:List UInt8,∀x∈gU d b,d∉x/\x.length<=b.length
 | [],x,a=>by rw[gU,e0] at a;subst a;simp
 | c::b,x,a=>by
  have e:=JV d b
  unfold gU at a
  split at a
  rcases eJ.1 a with rfl | a
  simp
  have:=e x a;exact⟨this.1,by rw[dV];omega⟩
  rename_i g;cases f:gU d b with
  | nil=>exact absurd f<|Up d b
  | cons i k=>
   rw[f] at a e
   dsimp only at a
   rcases eJ.1 a with rfl | a
   have:=e i au
   refine⟨λj=>?_,by rw[dV,dV];omega⟩;rcases eJ.1 j with h | h
   exact g h.symm;exact this.1 h;have:=e x (by simp[a]);exact⟨this.1,by rw[dV];omega⟩
def iW(g:Nat)(e:TypeId)(b:List Value):Chunk where
 cT:=[g]
 pred w:= ∃am a,w.heap[g]? = some (.cells am e a)/\b.length<=a.1/\am.toList.take b.length=b
 low w h k c:=by
  simp only[e0] at c
  subst c
  obtain⟨am,a,ab,_⟩:=h
  exact (lr.1 ab).1
 loc w d h ao:=by
  obtain⟨am,a,ab,ae⟩:=ao
  exact⟨am,a,by rw[h g au];exact ab,ae⟩
def Uw{b:List Value}(d:h.take b.length=b){v:Value}(c:b[a]? = some v):h[a]? = some v:=by
 have e:=(cH.1 c).1
 rw[<-d,iu] at c
 rwa [aB e] at c
section
variable {w:World}
def ag.JW(d:ag b S cs w)(e:Has cs (iW a m h)){c:Nat}{v:Value}(f:h[c]? = some v):w.cell? ⟨a,c,none⟩=some v:=by
 obtain⟨g,i,j,l,k⟩:=d.has e;rw[cell_of_row w a c g m i j];have:=Uw k f
 rwa [Array.getElem?_toList] at this
def Rd.xN{E:b1 r}{L:List r}(d:ag b S cs w){g e:Nat}(f:Has cs (iW g e<|E.all L))(h:L.length<=a)(i:a<=maxLen):Rd E w (λc=>c=g) (some ⟨g,0,none⟩) L.length a L:=by
 refine⟨rfl,h,i,λ_=>⟨_,rfl,rfl,λc l m n j k=>?_⟩⟩;have:=ag.JW d f<|E.nE j k
 rw[Addr.add_lit,Addr.add_lit,ev];exact this
def ag.Ux(e:ag b S cs w)(c:Nat)(a:List UInt8):ag b S (iW w.heap.size c (cI.all a)::cs) (Lib.bytesWorld w c<|bs a):=by
 have d: (cI.all a).length=a.length:=by rw[cI.eD];exact Nat.mul_one _
 refine e.add (Ext.us<|Lib.bytesWorld_below w c<|bs a) ⟨_,_,Lib.bytesWorld_at_new w c<|bs a,?_,?_⟩ (by simp[iW]) (by simp[iW]);show (cI.all a).length<=(Lib.bytesCells w c<|bs a).size
 rw[d];simp[Lib.bytesCells]
 rw[d];have f:cI.all a=a.map (λb=>Value.int .u8 (b.toNat:Int)):=by
  unfold b1.all cI;clear d;induction a with
  | nil=>rfl
  | cons h a g=>rw[nA,g,ku];rfl
 rw[f];simp only[Lib.bytesCells,Array.toList_append,Array.toList_map];rw[List.take_left' au]
end
def xO{x:Operand}{e a:TypeId}{s:List UInt8}(i:P.underlying j=some .string)(k:P.underlying e=some (.slice a))(m:P.underlying a=some (.int .u8))(o:Nat.blt d n=true)(p:bi l x=some (bU s))(v:s.length<=1000000)
 (q: ∀c f,b.heap.size<=c->(∀h∈aK cs,h<c)->s.length<=f->f<=maxLen->aM P n ops Q rest ((d,.slice (some ⟨c,0,none⟩) s.length f)::l) (ag b S<|iW c a (cI.all s)::cs)):
 aM P n ops Q (⟨some d,.convert j e x,ty,pos,bf,none⟩::rest) l (ag b S cs):=by
 refine iv o λy w r g=>?_
 have t: (bs s).size=s.length:=jf s
 refine⟨.slice (some ⟨w.heap.size,0,none⟩) s.length<|grownCap w s.length 0 a,Lib.bytesWorld w a<|bs s,?_,(q w.heap.size _ g.ext.size (λh u=>g.lt u) (grownCap_ge _ _ _ _)<|grownCap_le_maxLen _ _ _ _<|by simp only[maxLen];omega).at<|ag.Ux g a s⟩;simp only[execOp,r x _ p];rw[Sem.run_bind,Lib.run_convert_string_bytes w j e a (bs s) i k m,t];rfl
def D0:Shelf.Ren:=⟨λ| 129=>403 | 171=>100 | 172=>485 | 205=>513 | 243=>162 | 244=>499 | 245=>500 | 246=>240 | 247=>505 | 279=>506 | 280=>507 | 281=>508 | 282=>509 | 283=>327 | 284=>328 | 285=>329 | 286=>330 | 287=>501 | 316=>512 | 317=>408 | 318=>409 | 319=>410 | 320=>411 | 321=>510 | 322=>511 | 337=>468 | 338=>423 | n=>n,λ| 0=>0 | 2=>2 | 3=>3 | 4=>4 | 5=>5 | 9=>9 | 20=>20 | 21=>21 | 37=>48 | 46=>276 | 51=>118 | 53=>63 | 75=>193 | 76=>194 | 80=>111 | 85=>484 | 127=>197 | 143=>496 | 145=>498 | 167=>483 | 168=>486 | 171=>384 | 173=>387 | 175=>471 | 210=>494 | 212=>432 | 213=>433 | 232=>477 | 233=>465 | n=>n,λ| 15=>6 | 16=>7 | 17=>0 | 18=>2 | 19=>1 | n=>n⟩
def Uy:LaysC.n172 prog D0 where
 mixed:=by kernel_rfl
 f129:=func403.trans<|a_ some ak
 f171:=func100.trans<|a_ some ak
 f172:=func485.trans<|a_ some ak
 f205:=func513.trans<|a_ some ak
 f243:=func162.trans<|a_ some ak
 f244:=func499.trans<|a_ some ak
 f245:=func500.trans<|a_ some ak
 f246:=func240.trans<|a_ some ak
 f247:=func505.trans<|a_ some ak
 f279:=func506.trans<|a_ some ak
 f280:=func507.trans<|a_ some ak
 f281:=func508.trans<|a_ some ak
 f282:=func509.trans<|a_ some ak
 f283:=func327.trans<|a_ some ak
 f284:=func328.trans<|a_ some ak
 f285:=func329.trans<|a_ some ak
 f286:=func330.trans<|a_ some ak
 f287:=func501.trans<|a_ some ak
 f316:=func512.trans<|a_ some ak
 f317:=func408.trans<|a_ some ak
 f318:=func409.trans<|a_ some ak
 f319:=func410.trans<|a_ some ak
 f320:=func411.trans<|a_ some ak
 f321:=func510.trans<|a_ some ak
 f322:=func511.trans<|a_ some ak
 f337:=func468.trans<|a_ some ak
 f338:=func423.trans<|a_ some ak
 t0:=underlying0
 a0:=isAgg0
 z0:=sizeOf0
 v0:=zeroValue0
 t2:=underlying2
 a2:=isAgg2
 z2:=sizeOf2
 v2:=zeroValue2
 t3:=underlying3
 a3:=isAgg3
 z3:=sizeOf3
 v3:=zeroValue3
 t4:=underlying4
 a4:=isAgg4
 z4:=sizeOf4
 v4:=zeroValue4
 t5:=underlying5
 a5:=isAgg5
 z5:=sizeOf5
 v5:=zeroValue5
 t9:=underlying9
 a9:=isAgg9
 z9:=sizeOf9
 v9:=zeroValue9
 t20:=underlying20
 a20:=isAgg20
 z20:=sizeOf20
 v20:=zeroValue20
 t21:=underlying21
 a21:=isAgg21
 z21:=sizeOf21
 v21:=zeroValue21
 t37:=underlying48
 a37:=isAgg48
 z37:=sizeOf48
 v37:=zeroValue48
 t46:=underlying276
 a46:=isAgg276
 z46:=sizeOf276
 v46:=zeroValue276
 t51:=underlying118
 a51:=isAgg118
 z51:=sizeOf118
 v51:=zeroValue118
 t53:=underlying63
 a53:=isAgg63
 z53:=sizeOf63
 v53:=zeroValue63
 t75:=underlying193
 a75:=isAgg193
 z75:=sizeOf193
 v75:=zeroValue193
 t76:=underlying194
 a76:=isAgg194
 z76:=sizeOf194
 v76:=zeroValue194
 t85:=underlying484
 a85:=isAgg484
 z85:=sizeOf484
 v85:=zeroValue484
 t127:=underlying197
 a127:=isAgg197
 z127:=sizeOf197
 v127:=zeroValue197
 t143:=underlying496
 a143:=isAgg496
 z143:=sizeOf496
 v143:=zeroValue496
 t145:=underlying498
 a145:=isAgg498
 z145:=sizeOf498
 v145:=zeroValue498
 t167:=underlying483
 a167:=isAgg483
 z167:=sizeOf483
 v167:=zeroValue483
 t168:=underlying486
 a168:=isAgg486
 z168:=sizeOf486
 v168:=zeroValue486
 t171:=underlying384
 a171:=isAgg384
 z171:=sizeOf384
 v171:=zeroValue384
 t173:=underlying387
 a173:=isAgg387
 z173:=sizeOf387
 v173:=zeroValue387
 t175:=underlying471
 a175:=isAgg471
 z175:=sizeOf471
 v175:=zeroValue471
 t210:=underlying494
 a210:=isAgg494
 z210:=sizeOf494
 v210:=zeroValue494
 t212:=underlying432
 a212:=isAgg432
 z212:=sizeOf432
 v212:=zeroValue432
 t213:=underlying433
 a213:=isAgg433
 z213:=sizeOf433
 t232:=underlying477
 a232:=isAgg477
 z232:=sizeOf477
 v232:=zeroValue477
 t233:=underlying465
 a233:=isAgg465
 z233:=sizeOf465
 v233:=zeroValue465
 g15:=by kernel_rfl
 g16:=by kernel_rfl
 g17:=by kernel_rfl
 g18:=by kernel_rfl
 g19:=by kernel_rfl
 t80:=underlying111
 a80:=isAgg111
 z80:=sizeOf111
 v80:=zeroValue111
 i0:=by kernel_rfl
 i2:=by kernel_rfl
 i3:=by kernel_rfl
 i4:=by kernel_rfl
 i5:=by kernel_rfl
 i9:=by kernel_rfl
 i20:=by kernel_rfl
 i21:=by kernel_rfl
 i37:=by kernel_rfl
 i46:=by kernel_rfl
 i51:=by kernel_rfl
 i53:=by kernel_rfl
 i75:=by kernel_rfl
 i76:=by kernel_rfl
 i80:=by kernel_rfl
 i85:=by kernel_rfl
 i127:=by kernel_rfl
 i143:=by kernel_rfl
 i145:=by kernel_rfl
 i167:=by kernel_rfl
 i168:=by kernel_rfl
 i171:=by kernel_rfl
 i173:=by kernel_rfl
 i175:=by kernel_rfl
 i210:=by kernel_rfl
 i212:=by kernel_rfl
 i232:=by kernel_rfl
 i233:=by kernel_rfl
 m15:=by kernel_rfl
 m16:=by kernel_rfl
 m17:=by kernel_rfl
 m18:=by kernel_rfl
 m19:=by kernel_rfl
 c0:=by kernel_rfl
 c2:=by kernel_rfl
 c3:=by kernel_rfl
 c4:=by kernel_rfl
 c5:=by kernel_rfl
 c9:=by kernel_rfl
 c20:=by kernel_rfl
 c21:=by kernel_rfl
 c37:=by kernel_rfl
 c46:=by kernel_rfl
 c51:=by kernel_rfl
 c53:=by kernel_rfl
 c75:=by kernel_rfl
 c76:=by kernel_rfl
 c80:=by kernel_rfl
 c85:=by kernel_rfl
 c127:=by kernel_rfl
 c143:=by kernel_rfl
 c145:=by kernel_rfl
 c167:=by kernel_rfl
 c168:=by kernel_rfl
 c171:=by kernel_rfl
 c173:=by kernel_rfl
 c175:=by kernel_rfl
 c210:=by kernel_rfl
 c212:=by kernel_rfl
 c213:=by kernel_rfl
 c232:=by kernel_rfl
 c233:=by kernel_rfl
def qX(w:World):Prop:=(∃a b,w.cell? ⟨D0.g 15,0,none⟩=some (.iface a b))/\(∃a b,w.cell? ⟨D0.g 16,0,none⟩=some (.iface a b))
def qX.ext{w:World}(d:qX w)(a:Ext [] w k):qX k:=by
 obtain⟨⟨e,f,b⟩,⟨g,h,c⟩⟩:=d;exact⟨⟨e,f,by rw[a.cell (World.block_lt_of_cell? _ _ b) au];exact b⟩,⟨g,h,by rw[a.cell (World.block_lt_of_cell? _ _ c) au];exact c⟩⟩
def Uz(w:World)(a:List UInt8)(b:Int)(f:a.length<=1000000)(e:Lib.atoiAll a= .ok b):
 ay 485 [bU a] w (λc d=>c= .returned (.tuple #[ad b,.nilIface])/\Ext [] w d):=by
 refine (Any.strconv_Atoi_ok Uy (bs a) (by rw[jf];omega) b e w).mono ?_;rintro c d ⟨rfl,rfl | ⟨g,rfl⟩⟩;exact⟨rfl,Ext.refl _ _⟩;exact⟨rfl,Ext.us<|Lib.bytesWorld_below w _ _⟩
section
variable {H:World->Prop}{x:Operand}{cS et:TypeId}
def UA(b:P.isIface cS=true)(c:Nat.blt d n=true)(e:bi l x=some .nilIface)
 (f:aM P n ops Q rest ((d,.bool true)::l) H):aM P n ops Q (⟨some d,.binOp .eql cS x (.const .nilIface) et,ty,pos,bf,none⟩::rest) l H:=
 dB _ c (λg w a=>by
  have h:g (.const .nilIface)= .nilIface:=a _ _ rfl
  have i:=run_eql_nil_nil_at (P:=P) w cS b
  simp[execOp,a x _ e,h,eqGuard_nil_constR,i]) f
def UB(b:P.isIface cS=true)(c:Nat.blt d n=true)(e:bi l x=some (.iface j s))
 (f:aM P n ops Q rest ((d,.bool false)::l) H):aM P n ops Q (⟨some d,.binOp .eql cS x (.const .nilIface) et,ty,pos,bf,none⟩::rest) l H:=
 dB _ c (λg w a=>by
  have h:g (.const .nilIface)= .nilIface:=a _ _ rfl
  have i:=run_eql_iface_nil (P:=P) w cS b j s
  have k:eqGuard .eql cS x (.const .nilIface) (.iface j s) .nilIface=pure ():=by rfl
  simp[execOp,a x _ e,h,k,i]) f
end
section
variable {H:Type}{enc:TypeId × Value->H}
def handed_and_shaped{C:Checked}{g:Os}{fn:Func}{apart i j:Bool}{X:World->Array Value->Prop}
 (q: ∀(w k:World)(b:Array Value),w.heap=k.heap->X w b->X k b)
 (own:ownKnob C.prog.godebug=none) (r:g.Started) (s:C.prog.inits.idxOf? u=none) (x:C.prog.funcs[u]? = some fn)
 (A: ∃(w:World)(c:Tape)(a:Input),w.os=g/\(w.forCall c a).Shaped C.prog/\a.vars=[]/\Input.okWide C.prog (w.forCall c a) .any w.heap.size u a/\
  ((v.pre enc C.prog fn y apart (w.forCall c a).memory a.args/\X (w.forCall c a).memory a.args)/\sizedMet enc C.prog fn (OpenSpec.ofChange v) apart (w.forCall c a).memory a.args)/\t.holds C.prog (lone (Frame.enter C.prog u a.args .normal) []<|w.forCall c a))
 (B: ∀(W:World)(D:Nat)(b:Array Value)(e f:List (DataW H))(h:List MemPlace),
  (∀(l:Nat) m d,fn.params[l]? = some m->b[l]? = some d->Value.okWide C.prog W .any D m d)->
  DataW.Whole enc C.prog fn.params.toList v.vars apart W b.toList e f h->
  y.all (PathCond.test C.prog ⟨fn.params.toList,e,v.plain.varTypes C.prog,f⟩)=true->
  (DataW.weightsEach C.prog (fn.params.toList++v.plain.varTypes C.prog)<|e++f).all (· <=reachBytes)=true->X W b->W.ShapedOpen C.prog->
  Calls C.prog u b W λn o=> ∃d,n= .returned d/\v.post enc C.prog fn apart z i j W b d o):
 ReturnsInHanded t C g u .any (λw b=>(v.pre enc C.prog fn y apart w b/\X w b)/\sizedMet enc C.prog fn (OpenSpec.ofChange v) apart w b) (v.post enc C.prog fn apart z i j):=by
 refine returnsInHanded_of_calls own r s A ?_;intro w c a _ E _ F G _;obtain⟨_,_,_,I,J,_,_,_,_,K⟩:=F;obtain rfl:I=fn:=lw<|J.symm.trans x;obtain⟨⟨⟨e,f,h,p,L⟩,M⟩,N⟩:=G;have O:=DataW.Whole.of_heap (w':=w.forCall c a) bo p
 refine (B (w.forCall c a) w.heap.size a.args e f h K O L (N.weights p) (q _ _ _ bo M) E).mono λn o ⟨d,P,Q⟩=>?_
 subst P;exact ChangeSpec.post_blind Q
end
def UC{W:World}(a:W.ShapedOpen prog):tL W:=
 cell_of_shapedOpen_int (t:=3) (zero:= #[z0]) a (bg ak) ak rfl ak ak underlying3
