/- part 23 of the proof -/
import Derived.Test.YtnfmgboendlmaaaGreatDoorQ22
set_option linter.all false
namespace Go.Proofs.YtnfmgboendlmaaaGreatDoor.Mq
open RowKit Tryz
variable {j:(fv × Int) × List fW}{C f:Int}{W:List (List Int)}{r:List Chunk}{o:List Nat}{N:List Value}{Y:List b_}{M:List eO}{I p:Nat}{V:Option Addr}{O:TypeId}{b:UInt8}{d:World}{F:a1}{R:b8}{l:bA}{Q:bQ}{Z:b_}{H u:ck}{D:ck × hH}{L:d4}{m:d4 × Option Addr × Nat × List Int}{q:fv}(X:a1)(a:World)(i:bA)(v:Nat)(h:Int)(B:bQ)(E:ck)(G:dQ)(T:Nat->Prop)(e:List (List Int))(x:Int)(U:Option Addr)(J:Nat)(K:Int)
def Tv(a:127<=(b.toNat:Int)):dZ q f C b=none:=by
 unfold dZ;repeat' split
 all_goals first | rfl | omega | exact xF aa
def kW.none{db:List fW}(c:nb H.dec)(d:dZ u.h u.state u.most b=none)(e:u.state≠0\/(b.toNat:Int)<128):kW u b H db:=⟨c,λ_ _ f a=>(by rw[d] at a;cases a),λg i=>by omega⟩
def Ao(a:dZ q 1 f b=some j): ((b.toNat:Int)=93\/(b.toNat:Int)=91)/\q.inter.length=0/\q.ki=false/\j=((eA,if (b.toNat:Int)=93 then 4 else 2),[]):=by
 unfold dZ at a
 rw[ai aW,aB rfl] at a
 split at a
 rename_i c;exact⟨c.1,c.2.1,c.2.2,by simpa using a.symm⟩;cases a
def vC(a:f≠0)(c:f≠1)(d:f≠4):dZ q f C b=if f=2 then nc q b else none:=by
 unfold dZ;rw[ai a,ai c,ai d]
def kW.st{db:List fW}(e:nb H.dec)(c:u.state≠0)(f:u.state≠4)(h: (b.toNat:Int)<32\/(b.toNat:Int)=127):kW u b H db:=by
 refine⟨e,λ_ _ i a=>?_,λg=>absurd g c⟩;by_cases d:u.state=1
 rw[d] at a;exact absurd (Ao a).1 aa
 rw[vC c d f,xF aa] at a;simp at a
def xI(a:gK u)(b:nb L):gK (lN u L):=⟨a.head,a.inter,a.text,a.most,b,a.aj⟩
def Jt(G:bc a (eB E))(e:gK E)(f:UInt8)(k:E.state≠4)(h:E.state≠0):
 ay 111 [gT E.g,.int .u8 (f.toNat:Int)] a (eg E 2 (kW E f) a):=by
 refine bX func111 ntmps111 G ?_;refine (aE) (λH=>ap ?_) λH=>aI ?_;refine (dg) (jr · E · e _) λD m=>?_;refine ap ?_;have I:=m.wf.dec
 rw[<-m.g];refine aH ?_;refine dE (Jj · D · I f) λF p=>?_;refine dE (xH · (lN D F.1) F.2 · (xI m.wf p.1) p.2.1) λJ l=>?_;refine aU ?_;exact bT J ⟨l.g.trans m.g,l.wf,l.most.trans m.most,ge l.len p.2.1,l.ok,kW.none l.wf.dec (Tv aa)<|.inl h⟩;refine bl 20 rfl (λq=>?_) λq=>?_;have K:=bg q
 refine qp ?_;exact λr i=>eg.n rfl e rfl (kW.st e.dec h k aa) i ah
 have K:=bm q
 refine aH ?_;refine bl 23 rfl (λs=>?_) λs=>?_;have L:=bg s
 refine (aE) (λt=>a6 ?_) λt=>?_;exact λr i=>eg.n rfl e rfl (kW.st e.dec h k aa) i ah
 refine (aE) (λu=>a7 ?_) λu=>?_;refine ef (E:=fO) ⟨_,_,_,_,⟨_,_,_,0,0,[]⟩,_,_,_⟩ iA rfl rfl rfl rfl rfl λM N O=>aU ?_;exact λr i=>eg.z (es:=[fC 1 0 f.toNat 0 [] [] false]) rfl e rfl (by simpa using ⟨rfl,by simp[fC],by simp[fC],r_ f,by dsimp only[fC];omega⟩) au (kW.st e.dec h k aa) i ah
 refine (aE) (λP=>a7 ?_) λP=>aU ?_;refine dE (Jq · E · e f) λv b=>?_;refine aU ?_;exact bT v ⟨b.g,b.wf,b.most,by have:=b.len;omega,b.ok,⟨b.wf.dec,λ_ _ o d=>by rw[show E.state=1 by assumption] at d;obtain⟨w,x,y,rfl⟩:=Ao d;obtain⟨A,B,ey⟩:=b.R.2 x y w;exact⟨b.R.1,A,B,ey⟩,λj=>absurd j h⟩⟩;refine dE (Jr · E · e f) λC c=>?_;refine aI ?_;exact bT C ⟨c.g,c.wf,c.most,by have:=c.len;omega,c.ok,⟨c.wf.dec,λ_ _ o d=>(by rw[vC h bR k] at d;split at d;exact⟨c.R.1,c.R.2 bR o d⟩;cases d),λj=>absurd j h⟩⟩;have L:=bm s
 refine (aE) (λt=>a7 ?_) λt=>?_;refine ef (E:=fO) ⟨_,_,_,_,⟨_,_,_,0,0,[]⟩,_,_,_⟩ iA rfl rfl rfl rfl rfl λM N O=>aU ?_;exact λr i=>eg.z (es:=[fC 1 0 f.toNat 0 [] [] false]) rfl e rfl (by simpa using ⟨rfl,by simp[fC],by simp[fC],r_ f,by dsimp only[fC];omega⟩) au (kW.st e.dec h k aa) i ah
 refine (aE) (λu=>a7 ?_) λu=>aU ?_;refine dE (Jq · E · e f) λv b=>?_;refine aU ?_;exact bT v ⟨b.g,b.wf,b.most,by have:=b.len;omega,b.ok,⟨b.wf.dec,λ_ _ o d=>by rw[show E.state=1 by assumption] at d;obtain⟨w,x,y,rfl⟩:=Ao d;obtain⟨A,B,ey⟩:=b.R.2 x y w;exact⟨b.R.1,A,B,ey⟩,λj=>absurd j h⟩⟩;refine dE (Jr · E · e f) λC c=>?_;refine aI ?_;exact bT C ⟨c.g,c.wf,c.most,by have:=c.len;omega,c.ok,⟨c.wf.dec,λ_ _ o d=>(by rw[vC h bR k] at d;split at d;exact⟨c.R.1,c.R.2 bR o d⟩;cases d),λj=>absurd j h⟩⟩
def Ju(a:dZ q 0 f b=some j):
 ((b.toNat:Int)=27/\j=((eA,1),[]))\/((b.toNat:Int)≠27/\(b.toNat:Int)≠24/\(b.toNat:Int)≠26/\(b.toNat:Int)<127/\j=((q,0),[if (b.toNat:Int)<32 then ⟨1,0,b.toNat,0,[],[],false,[]⟩ else ⟨0,b.toNat,0,0,[],[],false,[]⟩])):=by
 unfold dZ at a
 rw[aB rfl] at a
 split at a
 exact .inl ⟨bR,by simpa using a.symm⟩;split at a
 cases a
 rename_i d e;split at a
 rename_i c;exact .inr ⟨d,aa,aa,aa,by rw[aB c];simpa using a.symm⟩;rename_i c;exact .inr ⟨d,aa,aa,aa,by rw[ai c];simpa using a.symm⟩
def Jv(a: (b.toNat:Int)=24\/(b.toNat:Int)=26):dZ q f C b=none:=by
 unfold dZ;repeat' split
 all_goals first | rfl | omega | exact xF aa
def Tw(g: (b.toNat:Int)=27)(a:dZ q f C b=some j):f=0:=by
 apply Classical.byContradiction
 intro e;by_cases c:f=1
 subst c;have:=(Ao a).1
 omega
 by_cases d:f=4
 subst d;rcases qS a with ⟨q,_⟩ | ⟨_,q,_⟩ <;> omega
 rw[vC e c d,xF aa] at a;simp at a
def DH{a:List eO}(b: ∀e∈M,n0 e)(c: ∀e∈a,n0 e): ∀e∈M++a,n0 e:=λe he=>by
 rcases dq.1 he with he | he
 exact b e he;exact c e he
def Tx{d:ck × hH}(f: (b.toNat:Int)=27)
 (k:nb m.1/\m.2.2.2.length<=1/\m.1.eH<=u.dec.eH/\(u.dec.fN=0->m.1=u.dec/\m.2.2.2=[]))
 (n:vz (lN u m.1) m.2.2.2.length (λa db=>a.dec=(lN u m.1).dec/\o1 (lN u m.1) m.2.2.2 a db) D)
 (o:vz D.1 1 (λa db=>a=D.1/\(D.1.state=4->db=[⟨4,0,0,0,[],D.1.text.l,D.1.cut,[]⟩])/\(D.1.state≠4->D.1.state≠3->db=[])) d)
 (c:Pa d.1 eA 1 H):kW u b H ((D.2.l++d.2.l).map eO.abs):=by
 refine⟨c.wf.dec,λy p z e=>?_,λ_ g=>by omega⟩;have i:=Tw f e
 rw[i] at e
 rcases Ju e with ⟨_,rfl⟩ | ⟨g,_⟩
 obtain⟨q,r⟩:=k.2.2.2 p;obtain⟨s,j⟩:=n.R;rw[r] at j
 obtain⟨A,t,v⟩:=j;obtain⟨w,B,x⟩:=o.R;have C:D.1.state=0:=t.trans i
 refine⟨?_,c.h,c.st,?_⟩;rw[c.dec,w,s,q];rw[gF,v,x aa aa];rfl
 exact absurd f g
def Ty(g:u.state=0)(s: (b.toNat:Int)≠27)(p:Dt 2 u.dec b m)
 (j:vz (lN u m.1) m.2.2.2.length (λq db=>q.dec=(lN u m.1).dec/\o1 (lN u m.1) m.2.2.2 q db) D):kW u b D.1 (D.2.l.map eO.abs):=by
 refine⟨j.wf.dec,λt w k h=>?_,λ_ x k y h a=>?_⟩;rotate_left
 ·obtain⟨n,o⟩:=p.2.2 k h
  obtain⟨i,c⟩:=j.R;rw[o] at c
  rw[<-n];match r:k.2,a with
  | [],a=>
   rw[r] at c
   obtain⟨d,e,f⟩:=c;cases a
   exact⟨i,d,e.trans g,f⟩
  | [z],a=>
   rw[r] at c
   simp only[vA] at a
   split at a
   ·cases a
    obtain⟨d,e,f⟩:=c.2 bR;exact⟨i,d,e.trans g,f⟩
   ·cases a
  | _::_::_,a=>cases a
 rw[g] at h
 rcases Ju h with ⟨v,_⟩ | ⟨_,_,_,A,rfl⟩
 ·exact absurd v s
 ·obtain⟨n,o⟩:=p.2.2 _<|Jd t (by unfold jN;rw[aB aa])
  obtain⟨i,c⟩:=j.R;rw[o] at c
  obtain⟨d,e,f⟩:=c.1 aa aa;exact⟨by rw[i,n],d,e.trans g,f⟩
def Tz(D:bc a (eB E))(m:gK E)(h:UInt8):
 ay 47 [gT E.g,.int .u8 (h.toNat:Int)] a (eg E 2 (kW E h) a):=by
 have p:=m.dec
 refine bX func47 ntmps47 D ?_;refine (aE) (λq=>?_) λq=>?_;have x:=q
 refine aA ?_;refine e_ rfl ((bI x))<|aH ?_;refine dE (Dv · E · p) λk e=>?_;refine (dg) (xH · (lN E k.1) k.2 · (xI m e.1) (by have:=e.2.1;omega)) λd c=>?_;refine a7 ?_;rw[show gT E.g=gT d.1.g by rw[c.g]];refine aA ?_;refine (dg) (jr · d.1 · c.wf _) λf i=>?_;refine aU ?_;refine ef (E:=fO) ⟨_,_,_,_,⟨_,_,_,0,0,[]⟩,_,_,_⟩ iA rfl rfl rfl rfl rfl λF G H=>?_;have y:=ge c.len e.2.1
 refine fu (E:=fO) iA rfl rfl rfl bx (λ_ _=>j5) cg cg λP Q=>aU ?_;intro z o
 (refine aX.cf (f,⟨_,_,d.2.l++[fC 1 0 h.toNat 0 [] [] false]⟩) ?_ rfl<|(ag.xG (l:=d.2.l) (o.aF (l:=[d.2.cw,f.aq,f.head.aD,f.inter.aD,f.text.aD,aD 129 fO _ _<|d.2.l++[fC 1 0 h.toNat 0 [] [] false]]) ah) rfl).aF ah;exact⟨i.g.trans c.g,i.wf,i.most.trans c.most,by simp;omega,DH c.ok<|by simpa using DG (r_ h),kW.none i.wf.dec (Jv aa)<|.inr aa⟩)
 have x:=q
 refine (aE) (λI=>aH ?_) λI=>?_;refine dE (Dv · E · p) λk e=>?_;refine (dg) (xH · (lN E k.1) k.2 · (xI m e.1) (by have:=e.2.1;omega)) λd c=>?_;refine a7 ?_;rw[show gT E.g=gT d.1.g by rw[c.g]];refine aA ?_;refine (dg) (jr · d.1 · c.wf _) λf i=>?_;refine aU ?_;refine ef (E:=fO) ⟨_,_,_,_,⟨_,_,_,0,0,[]⟩,_,_,_⟩ iA rfl rfl rfl rfl rfl λF G H=>?_;have y:=ge c.len e.2.1
 refine fu (E:=fO) iA rfl rfl rfl bx (λ_ _=>j5) cg cg λS T=>aU ?_;intro z o
 (refine aX.cf (f,⟨_,_,d.2.l++[fC 1 0 h.toNat 0 [] [] false]⟩) ?_ rfl<|(ag.xG (l:=d.2.l) (o.aF (l:=[d.2.cw,f.aq,f.head.aD,f.inter.aD,f.text.aD,aD 129 fO _ _<|d.2.l++[fC 1 0 h.toNat 0 [] [] false]]) ah) rfl).aF ah;exact⟨i.g.trans c.g,i.wf,i.most.trans c.most,by simp;omega,DH c.ok<|by simpa using DG (r_ h),kW.none i.wf.dec (Jv aa)<|.inr aa⟩)
 refine (aE) (λJ=>aH ?_) λJ=>?_;refine dE (Dv · E · p) λk e=>?_;refine (dg) (xH · (lN E k.1) k.2 · (xI m e.1) (by have:=e.2.1;omega)) λd c=>?_;rw[show gT E.g=gT d.1.g by rw[c.g]];refine av ?_;refine dE (DD · d.1 · c.wf) λj b=>?_;have y:=ge c.len e.2.1
 have U:=b.len
 refine fu (E:=fO) iA rfl rfl rfl pn (λ_ _=>uJ) cg aa λV W=>a7 ?_;rw[show gT d.1.g=gT j.1.g by rw[b.g]];refine aA ?_;refine (dg) (jr · j.1 · b.wf _) λf i=>?_;refine b6 ?_;intro z o
 (refine aX.cf (f,⟨_,_,d.2.l++j.2.l⟩) ?_ rfl<|(ag.DF (l:=d.2.l) (m:=j.2.l)<|o.aF (l:=[d.2.cw,j.2.cw,f.aq,f.head.aD,f.inter.aD,f.text.aD,aD 129 fO _ _<|d.2.l++j.2.l]) ah).aF ah;exact⟨i.g.trans<|b.g.trans c.g,i.wf,i.most.trans<|b.most.trans c.most,by simp;omega,DH c.ok b.ok,Tx aa e c b i⟩)
 refine (aE) (λK=>aU ?_) λK=>aY ?_;refine dE (Jj · E · p h) λk e=>?_;refine dE (xH · (lN E k.1) k.2 · (xI m e.1) e.2.1) λd c=>?_;refine aU ?_;exact bT d ⟨c.g,c.wf,c.most,ge c.len e.2.1,c.ok,Ty bR bR e c⟩;refine bl 59 rfl (λr=>?_) λr=>?_;have L:=bg r
 refine B1 ?_;refine dE (DE · E · m h) λj b=>?_;refine aU ?_;exact bT j ⟨b.g,b.wf,b.most,by have:=b.len;omega,b.ok,⟨b.wf.dec,λA B s n=>by exact⟨b.R.1,b.R.2 s bR n⟩,λC=>by omega⟩⟩;have L:=bm r
 refine b6 ?_;refine bl 66 rfl (λt=>?_) λt=>?_;have M:=bg t
 refine nI ?_;refine dE (DE · E · m h) λj b=>?_;refine aU ?_;exact bT j ⟨b.g,b.wf,b.most,by have:=b.len;omega,b.ok,⟨b.wf.dec,λA B s n=>by (rw[vC aa aa aa,ai aa] at n;cases n),λC=>by omega⟩⟩;have M:=bm t
 refine b6 ?_;refine bl 72 rfl (λu=>?_) λu=>?_;have N:=bg u
 refine (aE) (λO=>a7 ?_) λO=>aU ?_;refine dE (DE · E · m h) λj b=>?_;refine aU ?_;exact bT j ⟨b.g,b.wf,b.most,by have:=b.len;omega,b.ok,⟨b.wf.dec,λA B s n=>by (rw[vC aa aa aa,ai aa] at n;cases n),λC=>by omega⟩⟩;refine (dg) (Jt · E · m h aa aa) λv w=>aI ?_;exact bT v w;have N:=bm u
 refine gR ?_;refine (dg) (Jt · E · m h aa aa) λv w=>aI ?_;exact bT v w
structure qT (s:bA) (w:World):Prop where
 jc: ∃t:bA,t.g=s.g/\t.bk=s.bk/\t.y=s.y/\t.aq.pred w
def qT.of{w:World}(a:i.g=l.g)(b:i.bk=l.bk)(c:i.y=l.y)(e:ag d o r w)(f:Has r i.aq):qT l w:=⟨⟨i,a,b,c,e.has f⟩⟩
def DI{v:Value}(a: (aG p N O).pred d)(b:N[I]? = some v):d.cell? ⟨p,I,none⟩=some v:=by
 have c:d.heap[p]? = some (.cells N.toArray O (0,0)):=a
 rw[cell_of_row d p I N.toArray O (0,0) c];simpa using b
def qT.y(a:qT l d):d.cell? ⟨l.g,0+16,none⟩=some (ad l.y):=by
 obtain⟨f,b,h,c,e⟩:=a.jc;rw[<-b,<-c];exact DI e rfl
def qT.bk(e:qT l d)(c:Nat)(u:Value)(a: (l.bk.enc)[c]? = some u):d.cell? ((⟨l.g,0+0,none⟩ :Addr).add c)=some u:=by
 obtain⟨b,f,h,m,i⟩:=e.jc;rw[<-f,Addr.add_lit];rw[<-h] at a
 refine DI i ?_;have j:ga b=b.bk.enc++(ga b).drop 14:=rfl
 have k:=(cH.1 a).1
 rw[j,om<|by simpa using k];simpa using a
def TA(j:bc a (a8 i))(d:eM i)(k:eX i.abs):
 ay 256 [ptr i.g] a (e2 i (.tuple #[]) (CI i.abs) a):=by
 obtain⟨s,l,t,u,v⟩:=k.nums;refine bX func256 ntmps256 j ?_;refine aU ?_;refine fg [0,1,2,3,4,5,6,7,8,9,10] 3 [[(11,false,[12,13,14]),(15,false,[16,17]),(18,true,[])]] (_) mixed ak (λ_ e=>e.drew) (λ_ b=>qT.of i rfl rfl rfl b bw)<|aI ?_;refine aO rfl (λh c=>(cE (vs:=i.bk.enc) s5 rfl rfl rfl (λm f o p q=>by subst f;exact c.bk o p q) aJ)) ?_;refine ap ?_;refine aO rfl (λh c=>(bb bY rfl rfl (λm f=>by subst f;exact c.y) aJ)) ?_;refine ap ?_;refine fh (kQ · i · · l)<|cv (λ_=>True) (λ_ b=> .inr<|qT.of i rfl rfl rfl b Has.head) (λ_ b=>bh) ?_;refine aO rfl (λh c=>(kB (out:=[ad i.bk.at_.cM,ad i.bk.at_.fn,ad i.bk.at_.aq,ad i.bk.at_.aR,ad i.bk.at_.bB,ad i.bk.aQ.gj,ad i.bk.aQ.s1,ad i.bk.aQ.s2,ad i.bk.aQ.lf,ad i.bk.aQ.use,ad i.bk.aQ.lG,.bool i.bk.put,.bool i.bk.wrap,.bool i.bk.home,ad i.y,ad<|min i.x<|i.az.al - 1]) BH rfl rfl (by simp[hY,putAt,dJ,Value.cells]) aJ))<|a7 ?_;refine fR wJ rfl rfl (by rw[H8];exact bC.head) rfl (aV.cons rfl<|aV.cons rfl<|aV.cons rfl<|aV.cons rfl<|aV.cons rfl<|aV.cons rfl<|hg rfl rfl rfl rfl rfl rfl rfl rfl rfl rfl) (by exact ej rfl) ?_;refine cv (λ_=>True) (λ_ b=> .inr ⟨.inr<|qT.of { i with hb:=i.bk,ma:=i.y,mb:=min i.x (i.az.al - 1) } rfl rfl rfl b Has.head,dC⟩) (λ_ b=>bh)<|a6 ?_;exact λw e=>gk { i with hb:=i.bk,ma:=i.y,mb:=min i.x<|i.az.al - 1,has:=true } ⟨rfl,rfl,rfl⟩ ⟨d.r,d.st,d.n⟩ rfl rfl e ah
abbrev jO :List Value:=[ad i.y,ad i.x,ad i.bk.at_.cM,ad i.bk.at_.fn,ad i.bk.at_.aq,ad i.bk.at_.aR,ad i.bk.at_.bB,ad i.bk.aQ.gj,ad i.bk.aQ.s1,ad i.bk.aQ.s2,ad i.bk.aQ.lf,ad i.bk.aQ.use,ad i.bk.aQ.lG,.bool i.bk.put,.bool i.bk.wrap,.bool i.bk.home,ad i.top,ad i.dr,.bool i.has]
def Ap(z0 a b c d e f g h i j k l m n o p q r:Value)(s:bA):dJ [z0,a,b,c,d,e,f,g,h,i,j,k,l,m,n,o,p,q,r] 0 (jO s)=jO s:=by
 simp only[dJ,jO,ev,Nat.reduceAdd,sG,nC]
set_option maxHeartbeats 1000000 in
def kj(d:i.aq.pred a):ay 59 [ptr i.g] a (Pure (.agg (jO i).toArray) a):=by
 refine ba func59 ntmps59 ?_;refine ap ?_;intro m n o;refine cn ?_;refine bN [0,1,2,3,4,5,6,7,8,9,10,11,12,13,14,15,16,17,18,19,20,21,22,23,24,25,26,27,28,29,30,31,32,33,34,35,36] 1 [[(37,true,[])]] ?_;refine ap ?_;refine aO rfl (λe b=>(bb bY rfl rfl (λf c=>by subst c;exact b.cc d (by (simp;done)) rfl) aJ)) ?_;refine ap ?_;refine aO rfl (λe b=>(bb bY rfl rfl (λf c=>by subst c;exact b.cc d (by (simp;done)) rfl) aJ)) ?_;refine aI ?_;refine aO rfl (λe b=>(cE (vs:=[ad i.bk.at_.cM,ad i.bk.at_.fn,ad i.bk.at_.aq,ad i.bk.at_.aR,ad i.bk.at_.bB]) s3 rfl rfl rfl (λf c h j k=>by subst c;exact b.kK (sz:=5) (o:=0) (xs:=ga i) d au rfl h j k) aJ)) ?_;refine a7 ?_;refine aO rfl (λe b=>(cE (vs:=i.bk.aQ.enc) nF rfl rfl rfl (λf c h j k=>by subst c;exact b.kK (sz:=6) (o:=5) (xs:=ga i) d au rfl h j k) aJ)) ?_;refine a7 ?_;refine aO rfl (λe b=>(cE (vs:=[.bool i.bk.put,.bool i.bk.wrap,.bool i.bk.home]) Gf rfl rfl rfl (λf c h j k=>by subst c;exact b.kK (sz:=3) (o:=11) (xs:=ga i) d au rfl h j k) aJ)) ?_;refine ap ?_;refine aO rfl (λe b=>(bb bY rfl rfl (λf c=>by subst c;exact b.cc d (by (simp;done)) rfl) aJ)) ?_;refine ap ?_;refine aO rfl (λe b=>(bb bY rfl rfl (λf c=>by subst c;exact b.cc d (by (simp;done)) rfl) aJ)) ?_;refine ap ?_;refine aO rfl (λe b=>(bb pf rfl rfl (λf c=>by subst c;exact b.cc d (by (simp;done)) rfl) aJ)) ?_;refine aO rfl (λe b=>(kB (out:=jO i) yV rfl rfl (by simp[hY,putAt,dJ,Value.cells,hN.enc,gE.enc]) aJ))<|aA ?_;refine fR yU rfl rfl (by rw[Ap];exact bC.head) rfl (aV.cons rfl<|aV.cons rfl<|aV.cons rfl<|aV.cons rfl<|aV.cons rfl<|aV.cons rfl<|aV.cons rfl<|aV.cons rfl<|aV.cons rfl<|hg rfl rfl rfl rfl rfl rfl rfl rfl rfl rfl) (by exact ej rfl) ?_;refine aH ?_;exact λp l=>⟨rfl,l.ext⟩
structure hI (k:Nat) (s z:bA):Prop where
 g:z.g=s.g
 az:z.az.g=s.az.g
 st:z.st.g=s.st.g
 wf:eM z
 kept:ds k s.abs z.abs
 iB:dd s.abs->dd z.abs
def hI.refl{s:bA}(a:eM s):hI 0 s s:=⟨rfl,rfl,rfl,a,ds.refl _,id⟩
def hI.trans{a b:Nat}{z u:bA}(d:hI a l z)(c:hI b z u):hI (a+b) l u:=⟨c.g.trans d.g,c.az.trans d.az,c.st.trans d.st,c.wf,d.kept.trans c.kept,λe=>c.iB<|d.iB e⟩
def hI.mono{z:bA}(a:hI p l z)(b:p<=I):hI I l z:=⟨a.g,a.az,a.st,a.wf,a.kept.mono b,a.iB⟩
def jl.im{z:bA}(a:jl l F z)(b:ds p l.abs F)(c:dd l.abs->dd F):hI p l z:=⟨a.g,a.az,a.st,a.wf,a.abs▸b,a.abs▸c⟩
def hI.fits{k:Nat}{a b:bA}(c:hI k a b)(d:eX a.abs):eX b.abs/\b.az.bu.l.length<=a.az.bu.l.length+k:=⟨c.kept.wf d,c.kept.bu⟩
def fj(a:bA)(b:Value)(c:World):Ending->World->Prop:=aX (λ_:bA=>b) (a8 a) a8 (hI v a) c
def Jw{d:Nat}(e:eM l)(b:Q.g=l.az.g/\dx Q.r/\Q.abs=R)(f:Kept d l.az.abs R)(j:ea l.az.abs->ea R):hI d l { l with az:=Q }:=by
 have h: ({ l with az:=Q }:bA).abs= { l.abs with bz:=R }:=by simp only[bA.abs,b.2.2]
 refine⟨rfl,b.1,rfl,⟨b.2.1,e.st,?_⟩,?_,λc=>by rw[h];exact⟨j c.p,c.a,c.v⟩⟩;have i:=f.al
 rw[<-b.2.2] at i
 have k:Q.al=l.az.al:=i
 rw[e.n,<-k];rw[h];exact jn l.abs (f:=λ_=>R) f
def TB(B:bc a (a8 i))(C:eM i)(t:eX i.abs):
 ay 185 [ptr i.g] a (fj 0 i (.tuple #[]) a):=by
 refine bX func185 ntmps185 B ?_;refine cn ?_;refine dE (zJ · i · C t.bz) λd o=>?_;refine a7 ?_;have u:=o.im (H6 i.abs) RO
 obtain⟨v,O⟩:=u.fits t;obtain⟨P,Q,R,w,S⟩:=v.nums;rw[<-o.g];refine aA ?_;refine fh (pz · d d.az rfl · ·)<|a7 ?_;refine cd (ι:=Nat × bA) (λb=>[(0,ptr d.g),(9,ad (d.az.s.l.length:Int)),(10,ad (b.1 :Int))]) (λb=>ag a (aK<|a8 i)<|a8 b.2) (λb=>b.1<=d.az.s.l.length/\hI 0 d b.2) (λb=>d.az.s.l.length - b.1) ?_ ?_;exact λD p=>⟨(0,d),⟨b4 _,hI.refl o.wf⟩,(ed rfl rfl rfl),p.aF ah⟩
 rintro⟨b,f⟩ ⟨E,h⟩;dsimp only at E h ⊢
 obtain⟨k,T⟩:=h.fits v;obtain⟨U,V,W,X,Y⟩:=k.nums;rw[<-h.g];refine (aE) (λF=>bP ?_) λF=>aU ?_;refine bN [0,1,2,3,4,5,7] 2 [[(6,false,[]),(8,true,[])]] ?_;refine a6 ?_;refine fh (lH · f f.az rfl · ·)<|ap ?_;refine (dg) (xc · f.az · h.wf.r k.bz (b:Int) 0 f.az.al 0 0 aa) λG x=>aI ?_;have m:=Jw h.wf x (qA f.az.abs _ _ _ _ _)<|xn CT
 have y:=u_ (t:=f) x.1
 generalize Z: ({ f with az:=G }:bA)=e at m y
 refine dh (H':=ag a (aK<|a8 i)<|a8 e) ?_ (Sub.refl _) (λZa w=>by rw[y];exact w.aF ah);obtain⟨H,Zb⟩:=m.fits k;obtain⟨Zc,Zd,Ze,Zf,Zg⟩:=H.nums;rw[<-m.g];refine aA ?_;refine fh (lH · e e.az rfl · ·)<|a7 ?_;refine cd (ι:=Nat × bA) (λc=>[(0,ptr e.g),(2,ad (b:Int)),(9,ad (d.az.s.l.length:Int)),(10,ad (b:Int)),(23,ad e.az.al),(24,ad (c.1 :Int))]) (λc=>ag a (aK<|a8 i)<|a8 c.2) (λc=>c.1<=e.az.al.toNat/\hI 0 f c.2) (λc=>e.az.al.toNat - c.1) ?_ ?_;exact λD p=>⟨(0,e),⟨b4 _,m⟩,(jF rfl rfl rfl rfl rfl rfl),p⟩
 rintro⟨c,n⟩ ⟨I,j⟩;dsimp only at I j ⊢
 obtain⟨z,Zh⟩:=j.fits k;obtain⟨Zi,Zj,Zk,Zl,Zm⟩:=z.nums;rw[m.g,<-j.g];refine (aE) (λJ=>gQ ?_) λJ=>be ?_;refine dE (Hd · n.az · j.wf.r z.bz (b:Int) (c:Int) 69 ⟨0,0,0,0,0⟩) λK A=>?_;refine aU ?_;have L:=Jw j.wf A (xa n.az.abs _ _ _ _)<|Iy mh
 exact bv (c+1,{ n with az:=K }) ⟨by show c+1<=_;omega,(j.trans L).mono aa⟩ (by show e.az.al.toNat - (c+1)<e.az.al.toNat - c;omega) (jF rfl rfl rfl rfl rfl rfl) (λ_ q=>by rw[u_ A.1];exact q.aF ah);exact bv (b+1,n) ⟨by show b+1<=_;omega,(h.trans j).mono aa⟩ (by show d.az.s.l.length - (b+1)<d.az.s.l.length - b;omega) (ed rfl rfl rfl) λ_ q=>q.aF ah;refine dE (zK · f · h.wf k.bz 0 0) λM N=>?_;refine aA ?_;exact bT M<|((u.trans h).trans<|N.im (zI _ _ _)<|CZ _ _).mono aa
def Jx :cp.r9 (cp.fM e):=by
 refine⟨cp.Da e,λd b=>?_⟩;have h:=cp.Sx e d b
 refine⟨h.1,h.2,λc a=>?_⟩;have i: ∀f:Int,-1<=cp.oW f/\cp.oW f<=65535:=λf=>by unfold cp.oW;omega
 have j: ∀d:List Int,∀c∈cp.kT d,-1<=c/\c<=65535:=λd c a=>by
  unfold cp.kT at a
  split at a
  simp at a;omega
  obtain⟨g,_,rfl⟩:=ei.1 a;exact i g
 unfold cp.fM at b
 split at b
 simp only[e0] at b
 subst b;simp only[e0] at a
 omega
 obtain⟨g,_,rfl⟩:=ei.1 b;exact j g c a
def TC(d e:Nat)(b:List (List Int))(h:cp.e3 a T U d e b)(r:b.length<=1000000)(i: ∀f∈b,f.length<=1000000):
 ay 271 [.slice U d e] a (gr (λc:mm=>c.val) mm.aQ (λc=>cp.r9 c.gs/\qR c/\c.gs=cp.fM b) a):=by
 refine (cp.Db a T U d e b h (by have:=h.len;omega) i).mono ?_;rintro s j ⟨k,l,m,rfl,n,o⟩;have g:=Jx b
 refine⟨⟨k,l,m,a.heap.size,j.heap.size,cp.fM b⟩,⟨g,⟨by have:=g.1;show (cp.fM b).length<=1000;omega,λf p=>by have:=(g.2 f p).2.1;omega⟩,rfl⟩,rfl,n,⟨λ_=>cC _,o.iz⟩,λt q=>(p8.1 q).1,Ac _ _ _ _⟩
structure DJ (w:World) (S:List Nat) (A:Option Addr) (n c:Nat) (gs:List (List Int)):Prop where
 rd:cp.e3 w (λk=>k∉S) A n c gs
 n:gs.length<=1000
 g: ∀g∈gs,g.length<=1000
def DJ.xJ(b:DJ d o V p I W): ∀a∈W,a.length<=1000000:=λa c=>by have:=b.g a c;omega
abbrev DK(aq aR a:Int):bA:={ i with bk:={ i.bk with at_:=⟨h,x,aq,aR,a⟩ } }
def TD(aq aR a:Int):dJ (ga i) (0+0+0) [ad h,ad x,ad aq,ad aR,ad a]=ga (DK i h x aq aR a):=by
 simp only[dJ,ga,DK,ev,Nat.reduceAdd,sG,nC]
def sb :a1:={ X with bk:={ X.bk with at_:=cp.gJ (cp.fM e) 0 X.bk.at_ } }
def TE(b:dd F):dd (sb F e):=⟨b.p,cp.I6 _ _ _ (cC _) b.a,b.v⟩
def TF(e:World)(b:bA)(v:bc e (a8 b))(h:eM b)(w:hc b.bk.at_)(i:Option Addr)(j c:Nat)(f:List (List Int))(k:DJ e (aK<|a8 b) i j c f):
 ay 292 [ptr b.g,.slice i j c] e (e2 b (.tuple #[]) (sb b.abs f) e):=by
 obtain⟨⟨o,p,aq,aR,q⟩,s⟩ : ∃a,cp.gJ (cp.fM f) 0 b.bk.at_=a:=⟨_,rfl⟩;refine bX func292 ntmps292 v ?_;refine aU ?_;refine bN [0,1,2,3,4,5,6] 3 [[(7,false,[]),(8,false,[9,10,11]),(12,true,[])]] ?_;refine aI ?_;refine aO rfl (λC x=>(cE (vs:=[ad b.bk.at_.cM,ad b.bk.at_.fn,ad b.bk.at_.aq,ad b.bk.at_.aR,ad b.bk.at_.bB]) s3 rfl rfl rfl (λD y z A B=>by subst y;exact x.mI (sz:=5) (xs:=ga b) bw rfl z A B) aJ)) ?_;refine ap ?_;refine hf (hargs:=rfl) (λl m=>TC l _ i j c f (k.rd.ext m.ext λ_ d=>d) (by have:=k.n;omega) k.xJ) λt u=>?_;refine cv (λ_=>True) (λ_ d=> .inr<|d.rem bH.head) (λ_ d=>bh)<|aA ?_;refine bd (v:=r6 ⟨o,p,aq,aR,q⟩) (λl m=>by have d:=cp.SM l _ _ _ _ t.gs (m.has (c:=t.aQ) bw).2 u.1 b.bk.at_<|cp.S0 w;rw[u.2.2,s] at d;exact d) ?_;refine cv (λ_=>True) (λ_ d=> .inr ⟨.inr<|d.rem bH.head,dC⟩) (λ_ d=>bh)<|aI ?_;refine fR s3 rfl rfl (by (rw[TD];exact bC.tail bC.head)) rfl (Ok rfl rfl rfl rfl rfl) (by exact ej rfl) ?_;refine a7 ?_;exact bT (DK b o p aq aR q) ⟨rfl,rfl,rfl,⟨h.r,h.st,h.n⟩,by unfold sb;rw[show b.abs.bk.at_=b.bk.at_ from rfl,s];rfl⟩
def TG(c:bA)(J:bc a (a8 i))(j:eM i)(C:dF i.az.abs)(m:c.aq.pred a)(D:c.az.aq.pred a)(E:2<=c.az.al/\c.az.al<=1000)(o:c.g∉aK (a8 i))(F:c.az.g∉aK (a8 i))(K:hc c.bk.at_):
 ay 432 [ptr i.g,ptr c.g] a (fj 0 i (.tuple #[]) a):=by
 have L:pF prog 50 144 i.bk.enc c.bk.enc=true:=by kernel_rfl
 obtain⟨N,-,G⟩:=Af 50 _ _ _ L 9950;have H: ∀w,hZ prog 144 w= .agg w.toArray:=λw=>by
  have x:kD prog 144=true:=by kernel_rfl
  simp[hZ,x]
 rw[H,H] at G
 refine calls (n:=34) func432 rfl ntmps432 rfl ?_;refine dh (H':=ag a (aK<|a8 i)<|a8 i) (lx<|lx<|ly<|gY rfl rfl<|y2 underlying52 rfl rfl rfl<|gY rfl rfl<|bO rfl rfl rfl<|gY rfl rfl<|bO rfl rfl rfl<|y2 underlying52 rfl rfl rfl<|hd rfl rfl rfl rfl<|nD<|mC<|ff rfl (rfl)<|Bq<|mC<|lx<|lx<|fg [0,1,2,3,4,5,6,7,8] 0 [[]] (_) mixed ak (λ_ f=>f.drew) (λ_ e=>e) ?_) (Sub.refl _) J.start;refine aO rfl (λd b=>(gY rfl rfl aJ)) ?_;refine aO rfl (λd b=>(pk rfl rfl aJ)) ?_;refine aO rfl (λd b=>(pc yT rfl rfl aJ)) ?_;refine aO rfl (λd b=>(cE (vs:=i.bk.enc) s5 rfl rfl rfl (λu k q s t=>by subst k;exact b.mI (sz:=14) (xs:=ga i) bw rfl q s t) aJ)) ?_;refine aO rfl (λd b=>(gY rfl rfl aJ)) ?_;refine aO rfl (λd b=>(pk rfl rfl aJ)) ?_;refine aO rfl (λd b=>(pc yT rfl rfl aJ)) ?_;refine aO rfl (λd b=>(cE (vs:=c.bk.enc) s5 rfl rfl rfl (λu k q s t=>by subst k;exact b.kK (sz:=14) (xs:=ga c) m o rfl q s t) aJ)) ?_;refine aO rfl (λd b=>(Td NZ rfl rfl rfl G aJ)) ?_;refine rG ?_;refine yX<|mC ?_;refine cD rfl (λz=>?_) λz=>?_;simp only[p4,Bool.not_eq_false',fZ,eQ] at z
 refine ly<|gY rfl rfl<|gY rfl rfl<|pk rfl rfl<|pc yT rfl rfl<|cE (vs:=c.bk.enc) s5 rfl rfl rfl (λu x q s t=>x.kK (sz:=14) (xs:=ga c) m o rfl q s t)<|pk rfl rfl<|pc yT rfl rfl ?_;refine fR s5 rfl rfl (by rw[Ic];exact bC.head) rfl (aV.cons rfl<|aV.cons rfl<|aV.cons rfl<|aV.cons rfl<|hg rfl rfl rfl rfl rfl rfl rfl rfl rfl rfl) (by exact ej rfl) ?_;refine nD<|mC<|fg [0,1,2,3,4,5] 2 [[(6,false,[]),(7,true,[])]] (_) mixed ak (λ_ f=>f.drew) (λ_ e=>e) ?_;refine aO rfl (λd b=>(gY rfl rfl aJ)) ?_;refine aO rfl (λd b=>(gY rfl rfl aJ)) ?_;refine aO rfl (λd b=>(pk rfl rfl aJ)) ?_;refine aO rfl (λd b=>(pc Gg rfl rfl aJ)) ?_;refine aO rfl (λd b=>(bb bY rfl rfl (λu k=>by subst k;exact b.cc (xs:=ga c) m o rfl) aJ)) ?_;refine aO rfl (λd b=>(gY rfl rfl aJ)) ?_;refine rG ?_;refine uC [_] rfl<|sx.2 ⟨?_,by simp⟩;refine bd (λl h=>kQ l c (h.ew m<|by simpa [aG] using o) (h.ew D<|by simpa [aG] using F) E)<|cv (λ_=>True) (λ_ e=> .inr e) (λ_ e=>bh) ?_;refine rG ?_;refine uC [_] rfl<|sx.2 ⟨?_,by simp⟩;refine bK (l0:=a8 { i with bk:=c.bk }) (aP.cons bx<|aP.cons bx<|aP.cons bx<|aP.cons bx<|aP.cons bx<|aP.cons bx<|aP.cons bx aP.nil) (λl h=>zK l { i with bk:=c.bk } (h.cb<|aP.cons bx<|aP.cons bx<|aP.cons bx<|aP.cons bx<|aP.cons bx<|aP.cons bx<|aP.cons bx aP.nil) ⟨j.r,j.st,j.n⟩ C c.y _) λA B=>?_;refine cv (λ_=>True) (λ_ _=> .inl rfl) (λ_ e=>bh) ?_;refine rG ?_;refine yX ?_;refine Br results432 λM f=>?_;exact aX.cf A ((hI.trans (a:=0) (b:=0) (z:={ i with bk:=c.bk }) ⟨rfl,rfl,rfl,⟨j.r,j.st,j.n⟩,vd i.abs _,λI=>⟨I.p,K,I.v⟩⟩<|B.im (zI _ _ _)<|CZ _ _)) rfl<|f.aF<|aP.cons bx<|aP.cons bx<|aP.cons bx<|aP.cons bx<|aP.cons bx<|aP.cons bx<|aP.cons bx aP.nil;simp only[p4,Bool.not_eq_false',fZ,eQ] at z
 refine Bq<|mC<|fg [0,1,2,3,4,5] 2 [[(6,false,[]),(7,true,[])]] (_) mixed ak (λ_ f=>f.drew) (λ_ e=>e) ?_;refine aO rfl (λd b=>(gY rfl rfl aJ)) ?_;refine aO rfl (λd b=>(gY rfl rfl aJ)) ?_;refine aO rfl (λd b=>(pk rfl rfl aJ)) ?_;refine aO rfl (λd b=>(pc Gg rfl rfl aJ)) ?_;refine aO rfl (λd b=>(bb bY rfl rfl (λu k=>by subst k;exact b.cc (xs:=ga c) m o rfl) aJ)) ?_;refine aO rfl (λd b=>(gY rfl rfl aJ)) ?_;refine rG ?_;refine uC [_] rfl<|sx.2 ⟨?_,by simp⟩;refine bd (λl h=>kQ l c (h.ew m<|by simpa [aG] using o) (h.ew D<|by simpa [aG] using F) E)<|cv (λ_=>True) (λ_ e=> .inr e) (λ_ e=>bh) ?_;refine rG ?_;refine uC [_] rfl<|sx.2 ⟨?_,by simp⟩;refine bK (l0:=a8 i) (aP.cons bx<|aP.cons bx<|aP.cons bx<|aP.cons bx<|aP.cons bx<|aP.cons bx<|aP.cons bx aP.nil) (λl h=>zK l i (h.cb<|aP.cons bx<|aP.cons bx<|aP.cons bx<|aP.cons bx<|aP.cons bx<|aP.cons bx<|aP.cons bx aP.nil) j C c.y _) λA B=>?_;refine cv (λ_=>True) (λ_ _=> .inl rfl) (λ_ e=>bh) ?_;refine rG ?_;refine yX ?_;refine Br results432 λM f=>?_;exact aX.cf A (B.im (zI _ _ _)<|CZ _ _) rfl<|f.aF<|aP.cons bx<|aP.cons bx<|aP.cons bx<|aP.cons bx<|aP.cons bx<|aP.cons bx<|aP.cons bx aP.nil
def ag.vD{w:World}{l:List b_}{g:b_}(a:ag d o (aZ (l.map b_.aQ)::g.aQ::r) w):ag d o (aZ ((l++[g]).map b_.aQ)::r) w:=by
 have b:ag d o (aZ [g.aQ]::aZ (l.map b_.aQ)::r) w:=(a.perm<|List.Perm.swap _ _ _).close (l:=[g.aQ]) ah
 rw[gF];exact (b.perm<|List.Perm.swap _ _ _).DB
def ag.pG{w:World}(a:ag d o r w):ag d o (aZ ([].map b_.aQ)::r) w:=a.pb (λc b=>by simp at b) rfl
def TH(j:0<=h/\h<=100000):ay 163 [ad h] a
 (aX (λb:Nat=> .tuple #[ptr b,z0]) [] (λb=>cP ⟨b,⟨none,0,[]⟩,h,0,0,0⟩) (λ_=>True) a):=by
 refine ba func163 ntmps163 ?_;refine b6 ?_;refine bl 6 rfl (λc=>?_) λc=>?_;have f:=bg c
 refine dO ?_;intro e d
 (exfalso;omega)
 have f:=bm c
 refine (aE) (λg=>a6 ?_) λg=>aU ?_;intro e d
 (exfalso;omega)
 intro i k l;refine aH ?_;exact λe d=>aX.cf i bh rfl<|((d.e4 39 cx).pG).aF ah
def Aq :ay 164 [ad h,ad x] a (Pure (.bool<|decide<|(1<=h/\h<=1000)/\2<=x/\x<=1000) a):=by
 refine ba func164 ntmps164 ?_;refine be ?_;refine bl 7 rfl (λc=>?_) λc=>?_;have g:=bg c
 refine aH ?_;refine bl 11 rfl (λd=>?_) λd=>?_;have i:=bg d
 refine aH ?_;refine bl 15 rfl (λe=>?_) λe=>?_;have j:=bg e
 refine be ?_;exact λf b=>⟨by rw[Ending.returned.injEq,Value.bool.injEq];symm;(rw[iK];omega),b.ext⟩
 have j:=bm e
 refine aY ?_;exact λf b=>⟨by rw[Ending.returned.injEq,Value.bool.injEq];symm;(rw[fZ];omega),b.ext⟩
 have i:=bm d
 refine b6 ?_;exact λf b=>⟨by rw[Ending.returned.injEq,Value.bool.injEq];symm;(rw[fZ];omega),b.ext⟩
 have g:=bm c
 refine fa ?_;exact λf b=>⟨by rw[Ending.returned.injEq,Value.bool.injEq];symm;(rw[fZ];omega),b.ext⟩
def TI(b:bc a (b9 B)):ay 205 [ptr B.g] a
 (aX (λ_:Unit=>B.bu.val) (b9 B) (λ_=>b9 { B with bu:=⟨none,0,[]⟩ }++[B.bu.aD]) (λ_=>True) a):=by
 refine bX func205 ntmps205 b ?_;refine Oy ?_;exact λd c=>aX.cf () bh rfl<|(c.e4 232 lD).aF ah
def Jy(d:G.aq.pred a)(b c:Int)(e:0<=b/\b<=1000000)(f:0<=G.first/\G.first<=1000000)(h: (G.s.l.length:Int)<=1000000)(i:e5 G b=c):ay 122 [ptr G.g,ad b] a (Pure (ad c) a):=by
 subst i;exact ze a G d b e f h
def xK(a: (aZ<|Y.map b_.aQ).pred d)(b:Z∈Y):Rd bW d (λ_=>True) Z.A Z.cells.length Z.c Z.cells:=
 hF (e:=81) (E:=bW) (a Z.aQ<|ei.2 ⟨Z,b,rfl⟩)
def TJ(p:bc a (cP G))(f:dx G)(t: ∀e∈G.rows,e.1.length<=1000000):ay 55 [ptr G.g] a
 (aX (λb:dz=>b.val) (cP G) (λb=>cP G++[b.aD,b.cw]) (λb=>b2 b.l=G.rows) a):=by
 have u:=f.n
 have I:=f.len
 have J:=f.room
 have K:=f.first
 refine calls (n:=25) func55 rfl ntmps55 rfl ?_;refine dh (H':=ag a (aK<|cP G)<|cP G++[dz.aD ⟨none,0,[]⟩,dz.cw ⟨none,0,[]⟩]) (cZ ?_) (Sub.refl _) λe o=>(((p.start e o).e4 39 cx).pG).aF ah;refine cU (zd · G ·)<|a7 ?_;refine cd (ι:=Nat × dz) (λi=>[(0,ptr G.g),(3,i.2.val),(6,ad G.n),(7,ad (i.1 :Int))]) (λi=>ag a (aK<|cP G)<|cP G++[i.2.aD,i.2.cw]) (λi=>(i.1 :Int)<=G.n/\b2 i.2.l=G.rows.take i.1) (λi=>G.n.toNat - i.1) ?_ ?_;exact λL v=>⟨(0,⟨none,0,[]⟩),⟨u.1,rfl⟩,(da rfl rfl rfl rfl),v⟩
 rintro⟨i,b⟩ ⟨w,j⟩;dsimp only at w j ⊢
 have M:b.l.length=i:=by
  have:=a_ List.length j
  rw[c8,dR,lE] at this
  omega
 refine (aE) (λx=>?_) λx=>cn ?_;have N:=qy f (i:=i) aa aa
 obtain⟨g,h⟩ : ∃g,G.s.l[(e5 G i).toNat]? = some g:=⟨G.s.l[(e5 G i).toNat]'aa,bD _⟩;obtain⟨k,m⟩ : ∃k:Nat,e5 G i=k:=⟨(e5 G i).toNat,aa⟩;rw[m,gw] at h
 obtain⟨O,q⟩:=ti (p.all G.s.aD au) aa;have y:=cR h
 have P:g.cells.length<=1000000:=t g.fI<|cR (i:=i) (by rw[pt,aB aa,qz,m,gw,h];rfl)
 refine be ?_;refine bN [0,1,2,3,4,5,6] 4 [[(7,false,[8,9]),(10,false,[]),(11,false,[]),(12,true,[13])]] ?_;refine a6 ?_;refine cU (Jy · G · (i:Int) (k:Int) aa aa aa m)<|cv (_) (λ_ d=> .inr d) (λ_ d=>d) ?_;refine aO rfl (λz r=>(bE (q:=k) dy rfl rfl rfl q rfl aa aJ)) ?_;refine aO rfl (λz r=>(cE (vs:=g.enc) gG rfl rfl rfl (λQ A B C D=>by subst A;exact r.hG (E:=cx) (c:=G.s.c) (L:=G.s.l) cz q h B C D) aJ)) ?_;refine aA ?_;refine hf (hargs:=rfl) (λE F=>Cp E _ _ _ _ g.cells g.cont (xK (F.has (c:=G.s.cw) cW) y) aa) λe o=>cv (λ_=>True) (λ_ d=> .inr ⟨.inr<|d.rem bH.head,(d.rem bH.head)⟩) (λ_ d=>bh)<|aA ?_;refine ef (E:=cx) _ dy rfl rfl rfl rfl rfl λR S T=>cv (λ_=>True) (λ_ d=> .inr ⟨.inr ⟨.inr<|(d.rem bH.head).rem bH.head,((d.rem bH.head).rem bH.head)⟩,dC⟩) (λ_ d=>bh)<|aA ?_;refine fu (E:=cx) dy rfl rfl rfl bx (λ_ _=>j5) cg cg λU V=>be ?_;have H:G.rows[i]? = some e.fI:=by rw[pt,aB aa,qz,m,gw,h,o];rfl
 refine bv (i+1,⟨_,_,b.l++[e]⟩) ⟨by dsimp only;omega,?_⟩ bL (da rfl rfl rfl rfl) λ_ d=>(ag.vD (l:=b.l) (g:=e)<|d.aF (l:=[b.cw,e.aQ,G.aq,G.s.aD,G.s.cw,aD 39 cx _ _<|b.l++[e]]) ah).aF ah;show (b.l++[e]).map b_.fI=G.rows.take (i+1)
 rw[gF,hA,H,<-j];rfl
 exact bT b (by rw[j,eT<|by rw[lE];omega])
def pH :bq:=(List.replicate (mX h)<|hr 0 0,false)
def TK(a:2<=f/\f<=1000):pH f=rO f 0 0:=by
 unfold pH rO mX;rw[show (max 0<|min f 1000).toNat=f.toNat by omega]
def DL(k:bc a (b9 B))(e:Int)(w:e<=1000)(x:B.s.l.length<=1000):ay 165 [ptr B.g,ad e] a
 (aX (λ_:dz=> .tuple #[]) (b9 B) (λb=>b9 { B with s:=b }) (λb=>b2 b.l=b2 B.s.l++List.replicate (e.toNat - B.s.l.length) (pH B.al)) a):=by
 refine bX func165 ntmps165 k ?_;refine av ?_;refine cd (ι:=Nat × dz) (λc=>[(0,ptr B.g),(1,ad e)]) (λc=>ag a (aK<|b9 B)<|b9 { B with s:=c.2 }) (λc=>b2 c.2.l=b2 B.s.l++List.replicate c.1 (pH B.al)/\c.2.l.length=B.s.l.length+c.1/\c.1<=e.toNat - B.s.l.length) (λc=>e.toNat - c.2.l.length) ?_ ?_;exact λy m=>⟨(0,B.s),⟨by simp,rfl,b4 _⟩,(ig rfl rfl),m⟩
 rintro⟨c,b⟩ ⟨i,n,o⟩;dsimp only at i n o ⊢
 refine (aE) (λh=>ap ?_) λh=>aI ?_;refine fg [0,1,2,3,4,5,6] 4 [[(7,false,[]),(8,false,[]),(9,false,[10,11]),(12,true,[])]] (_) mixed ak (λ_ j=>j.drew) (λ_ d=>(show (bQ.aq { B with s:=b }).pred _ from d.has bw))<|a7 ?_;refine aO rfl (λz p=>(bb sY rfl rfl (λA q=>by subst q;exact DI p rfl) aJ)) ?_;refine a7 ?_;refine hf (λt u=>Co t { B with s:=b } (u.has bw) 0 0) λf v=>cv (λ_=>True) (λ_ d=> .inr<|d.has cz) (λ_ d=>bh) ?_;refine aA ?_;refine ef (E:=cx) _ dy rfl rfl rfl rfl rfl λC D E=>cv (λ_=>True) (λ_ d=> .inr ⟨.inr<|d.has cW,dC⟩) (λ_ d=>bh)<|aA ?_;refine fu (E:=cx) dy rfl rfl rfl bx (λ_ _=>oH) cg cg λF G=>cv (λ_=>True) (λ_ d=> .inr ⟨.inr ⟨.inr<|d.has cz,dC⟩,dC⟩) (λ_ d=>bh)<|a6 ?_;refine bv (c+1,⟨_,_,b.l++[f]⟩) ⟨?_,by simp;omega,by dsimp only at h ⊢;omega⟩ (by simp only[b3,dV,gN];dsimp only at h;omega) (ig rfl rfl) λ_ d=>(ag.vD (l:=b.l) (g:=f)<|d.aF (l:=[b.cw,f.aQ,bQ.aq { B with s:=⟨_,_,b.l++[f]⟩ },aZ<|cP B.r,aD 39 cx _ _<|b.l++[f],B.bu.aD]) ah).aF ah;show (b.l++[f]).map b_.fI=_
 rw[gF,List.replicate_succ',<-ec,<-i];show _++[f.fI]=_
 rw[v];rfl
 exact λH j=>aX.cf b (by rw[i,show c=e.toNat - B.s.l.length by dsimp only at h;omega]) rfl j
def xL(t:bc a (b9 B))(f:dx B.r)(u: ∀d∈B.r.rows,d.1.length<=1000000)(v: ∀d∈b2 B.s.l,d.1.length<=1000000)(H:B.s.l.length<=1000):ay 18 [ptr B.g] a
 (aX (λb:dz=>b.val) (b9 B) (λb=>b9 B++[b.aD,b.cw]) (λb=>b2 b.l=B.r.rows++b2 B.s.l) a):=by
 have I:=f.n
 have J:=f.len
 have K:=f.room
 refine bX func18 ntmps18 t ?_;refine lb ?_;refine ml (l0:=cP B.r) (cs1:=λ_=>_) (λ_=>fs) (λj k=>TJ j B.r (k.mj cz) f u) λb o=>?_;refine aI ?_;refine dh (H':=ag a (aK<|b9 B)<|b9 B++[b.aD,b.cw]) ?_ (Sub.refl _) λd m=>(((m.open (l:=cP B.r++[b.aD,b.cw]) c6).close (l:=cP B.r) ah).aF ah);have L:b.l.length=B.r.n.toNat:=by
  have:=a_ List.length o
  rwa [c8,lE] at this
 refine be ?_;refine cd (ι:=Nat × dz) (λi=>[(3,i.2.val),(16,B.s.val),(17,ad (B.s.l.length:Int)),(18,ad (i.1 :Int))]) (λi=>ag a (aK<|b9 B)<|b9 B++[i.2.aD,i.2.cw]) (λi=>i.1<=B.s.l.length/\b2 i.2.l=B.r.rows++(b2 B.s.l).take i.1) (λi=>B.s.l.length - i.1) ?_ ?_;exact λM w=>⟨(0,b),⟨b4 _,by simpa using o⟩,(da rfl rfl rfl rfl),w⟩
 rintro⟨i,e⟩ ⟨x,h⟩;dsimp only at x h ⊢
 have N:e.l.length=B.r.n.toNat+i:=by
  have:=a_ List.length h
  simp only[c8,b3,dR,lE] at this
  omega
 refine (aE) (λy=>?_) λy=>cn ?_;obtain⟨g,p⟩ : ∃g,B.s.l[i]? = some g:=⟨B.s.l[i]'aa,bD _⟩;have q:=cR p
 have O:g.cells.length<=1000000:=v g.fI<|ei.2 ⟨g,q,rfl⟩
 refine aH ?_;refine ik (E:=cx) cW dy rfl rfl rfl bo aa λP z=>cE gG rfl rfl rfl (λQ C D e E=>C.hG (E:=cx) cW z bR D e E)<|av ?_;intro R S T;refine aH ?_;refine hf (hargs:=rfl) (λj k=>Hf j _ g.A g.cells.length g.c g.cells g.cont (xK (k.has (c:=B.s.cw) j4) q) aa) λd m=>ef (E:=cx) _ dy rfl rfl rfl rfl rfl λU V W=>fu (E:=cx) dy rfl rfl rfl bx (λ_ _=>GG) cg cg λX Y=>aY ?_;have F: (b2 B.s.l)[i]? = some d.fI:=by rw[fw,p,m];rfl
 refine bv (i+1,⟨_,_,e.l++[d]⟩) ⟨by dsimp only;omega,?_⟩ bL (da rfl rfl rfl rfl) λ_ G=>(ag.vD (l:=e.l) (g:=d)<|G.aF (l:=[e.cw,d.aQ,B.aq,aZ<|cP B.r,B.s.aD,B.s.cw,B.bu.aD,aD 39 cx _ _<|e.l++[d]]) ah).aF ah;show (e.l++[d]).map b_.fI=B.r.rows++(b2 B.s.l).take (i+1)
 rw[gF,hA,F,<-ec,<-h];rfl
 exact bT e (by rw[h,eT<|by simp;omega])
def pI :b8:=⟨[],K,List.replicate h.toNat<|rO x 0 0,x,[]⟩
def TL{a:Int}(e:1<=f/\f<=1000)(b:2<=C/\C<=1000)(g:0<=a/\a<=100000):dF (pI f C a):=by
 refine⟨b,by simp only[pI,hy];omega,λh c=>?_,by simp[pI],by simp only[pI,gN];omega⟩;have:=k6 c
 subst this;refine⟨by simp only[rO,hy,pI];omega,λi d=>?_⟩;have:=k6 d
 subst this;simp[hr]
abbrev DM :dQ:=⟨v,⟨none,0,[]⟩,h,0,0,0⟩
abbrev DN(a b:Int)(c:dz):bQ:=⟨v,DM J a,c,b,⟨none,0,[]⟩⟩
def TM(a:0<=f/\f<=100000):dx (DM p f):=⟨by simp;omega,a,by simp,by simp,by simp⟩
def TN(m:1<=h/\h<=1000)(e:2<=x/\x<=1000)(f:0<=K/\K<=100000):ay 101 [ad h,ad x,ad K] a
 (aX (λb:bQ=> .tuple #[ptr b.g,z0]) [] b9 (λb=>dx b.r/\b.abs=pI h x K) a):=by
 refine ba func101 ntmps101 ?_;refine a6 ?_;refine kH (TH · K f) λc _=>?_;refine b6 ?_;refine bF (Aq · _ _) ?_;refine aA ?_;refine bl 20 rfl (λi=>dO ?_) λi=>aU ?_;exact λn o=>absurd i (by rw[bI (show (1<=h/\h<=1000)/\2<=x/\x<=1000 from ⟨m,e⟩)];decide)
 refine (cj) (λj=>a6 ?_) λj=>aY ?_;exact λn o=>absurd rfl j
 intro d q s;refine a7 ?_;refine dh (H':=ag a []<|b9<|DN d c K x ⟨none,0,[]⟩) (ap ?_) (Sub.refl _) λt p=>(((((p.close (l:=cP<|DM c K) ah).e4 39 cx).pG).e4 232 lD).aF ah);refine (dg) (DL · (DN d c K x ⟨none,0,[]⟩) · h aa au) λb k=>bP ?_;exact jG (DN d c K x b) ⟨TM f,by rw[TK e] at k;show b8.mk [] K (b2 b.l) x []=_;rw[k];rfl⟩
