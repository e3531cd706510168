/- part 33 of the proof -/
import Derived.Test.YtkeokgcdnfjaaaaGreatDoorQ32
namespace Go.Proofs.YtkeokgcdnfjaaaaGreatDoor.Mq
open Go Go.RowKit Go.Proofs
abbrev ei (p:bl):Prop:=(0≤p.row∧p.row≤4398046511104)∧0≤p.dm∧p.dm≤4398046511104
theorem VT {p:bl} (h:ei p) (s:ed):ei (lr p s):=by
 unfold lr;have d:dX s→0≤hR s∧hR s≤1099511627776:=λh=>by unfold hR;split <;> simp only[dX,dM] at h <;> omega
 split
 exact h;rename_i a;have b:di p∧dX s∧hR s≤p.row:=⟨Classical.byContradiction λc=>a (.inl c),Classical.byContradiction λc=>a (.inr (.inl c)),aa⟩
 have e:=d b.2.1
 simp only[di,dX,dM] at b
 split
 exact⟨by dsimp only;omega,by dsimp only;omega⟩;split
 exact⟨by dsimp only;omega,by dsimp only;omega⟩;exact⟨by dsimp only;omega,by dsimp only;omega⟩
structure ej where
 code:Int
 has:Bool
 cut:Bool
 dir:List UInt8
 line:List UInt8
 id:Int
 pl:List bl
structure eW where
 blocks:List ej
 most:Int
 ids:Int
 dir:List UInt8
structure ls where
 kind:Int
 code:Int
 has:Bool
 text:List UInt8
def gY (e:ej):bl:=e.pl.getLastD ⟨0,0⟩
def gA (e:ej) (n:Nat) (at_:bl):ej:={ e with pl:=e.pl++List.replicate (n - e.pl.length) at_ }
def gB (s:eW) (n:Nat) (at_:bl):eW:=
 let b:=s.blocks++[⟨0,false,false,s.dir,[],s.ids+1,List.replicate n at_⟩]
 { s with ids:=s.ids+1,blocks:=if s.most<b.length then b.tail else b }
def setLast (l:List ej) (f:ej→ej):List ej:=match l.getLast? with
 | some e=>l.dropLast++[f e]
 | none=>l
def pc (s:eW) (a b:Nat):Bool:=match s.blocks.getLast? with
 | some e=>decide (a≤e.pl.length) && decide (e.pl.length≤b)
 | none=>false
def jo (s:eW) (f:ej→ej):eW:={ s with blocks:=setLast s.blocks f }
def lu (s:eW) (a:bl):bl:=match s.blocks.getLast? with
 | some e=>hS a (gY e)
 | none=>a
def gj (s:eW) (x:ls) (a:bl):eW:=
 if ¬di a then s else
 if x.kind=1 then gB s 1 (lu s a) else
 if x.kind=2 then (if pc s 1 1=true then jo s (λe=>gA e 2 (lu s a)) else gB s 2 (lu s a)) else
 if x.kind=3 then (if pc s 1 2=true then jo s (λe=>gA e 3 (lu s a)) else gB s 3 (lu s a)) else
 if x.kind=4 then (if pc s 1 3=true then jo s (λe=>{ gA e 4 (lu s a) with code:=x.code,has:=x.has }) else s) else
 if x.kind=5 then (if pc s 1 3=true then jo s (λe=>{ e with line:=x.text }) else s) else
 if x.kind=6 then (if pc s 1 2=true then jo { s with dir:=x.text } (λe=>{ e with dir:=x.text }) else { s with dir:=x.text }) else s
def mb (e:ej):bl:=e.pl.headD ⟨0,0⟩
def jH (x:ed):List ej→List ej
 | a::b::l=>if qi (mb a) x=true∧fH ⟨x.n,0⟩ (mb b)=false then jH x (b::l) else a::b::l
 | l=>l
def rx (x:ed) (e:ej):ej:={ e with cut:=e.cut || qi (mb e) x }
def vE (x:ed) (e:ej):ej:={ e with pl:=e.pl.map (λp=>lr p x) }
def ry (s:eW) (x:ed):eW:=
 if ¬dX x then s else
 { s with blocks:=(if x.kind=2 then (jH x s.blocks).map (rx x) else s.blocks).map (vE x) }
def vF (l:List ej):List bl:=l.flatMap (·.pl)
structure eC where
 id:Int
 phase:Int
 start:bl
 input:bl
 output:bl
 done:bl
 stop:bl
 code:Int
 has:Bool
 cut:Bool
 dir:List UInt8
 line:List UInt8
def mc (e:ej) (stop:bl):eC:=⟨e.id,e.pl.length,e.pl.getD 0 stop,e.pl.getD 1 stop,e.pl.getD 2 stop,e.pl.getD 3 stop,stop,e.code,e.has,e.cut,e.dir,e.line⟩
def gS (p:bl):eC:=⟨0,0,⟨0,0⟩,p,p,p,p,0,false,false,[],[]⟩
def jI (a:bl):List ej→List eC
 | []=>[]
 | [e]=>[mc e a]
 | e::f::l=>mc e (mb f)::jI a (f::l)
def ka (s:eW) (a:bl):List eC:=match s.blocks with
 | []=>[gS a]
 | e::l=>gS (mb e)::jI (hS a (gY ((e::l).getLastD e))) (e::l)
def kb (s:eW) (id:Int) (a:bl):Option eC:=(ka s a).find? (λb=>decide (b.id=id))
structure iN (e:ej) (ids:Int):Prop where
 pl:1≤e.pl.length∧e.pl.length≤4
 pos: ∀p∈e.pl,ei p
 id:1≤e.id∧e.id≤ids
 nV:e.dir.length≤256∧e.line.length≤256
structure io (s:eW) (N:Int):Prop where
 most:1≤s.most∧s.most≤10000
 len: (s.blocks.length:Int)≤s.most
 ids:0≤s.ids∧s.ids≤N
 gk: ∀e∈s.blocks,iN e s.ids
 pd:s.blocks.Pairwise (λa b=>a.id<b.id)
 dir:s.dir.length≤256
theorem iN.mono {e:ej} {a b:Int} (h:iN e a) (c:a≤b):iN e b:=⟨h.pl,h.pos,by have:=h.id;omega,h.nV⟩
theorem io.mono {s:eW} {a b:Int} (h:io s a) (c:a≤b):io s b:=⟨h.most,h.len,by have:=h.ids;omega,h.gk,h.pd,h.dir⟩
theorem yz {s:eW} {N:Int} (h:io s N) {n:Nat} (g:1≤n∧n≤4) {p:bl} (ai:ei p):io (gB s n p) (N+1):=by
 have i:=h.most;have m:=h.len;have hi:=h.ids
 have j:iN ⟨0,false,false,s.dir,[],s.ids+1,List.replicate n p⟩ (s.ids+1):=⟨by simpa using g,λq k=>(mV k).symm▸ai,by dsimp only;omega,by simpa using h.dir⟩
 have c: ∀e∈s.blocks++[⟨0,false,false,s.dir,[],s.ids+1,List.replicate n p⟩],iN e (s.ids+1):=λe he=>by
  rcases cX.1 he with he | he
  exact (h.gk e he).mono aa;rw[eL] at he;exact he▸j
 have d: (s.blocks++[(⟨0,false,false,s.dir,[],s.ids+1,List.replicate n p⟩ :ej)]).Pairwise (λa b=>a.id<b.id):=
  List.pairwise_append.2 ⟨h.pd,List.pairwise_singleton _ _,λa l b f=>by
   rw[eL] at f;subst f
   have:=(h.gk a l).id
   dsimp only;omega⟩
 unfold gB;refine⟨i,?_,⟨by dsimp only;omega,by dsimp only;omega⟩,?_,?_,h.dir⟩;dsimp only;split
 rw[List.length_tail];rw[b0,iS] at *;omega
 omega
 dsimp only;intro e he;split at he
 exact c e (List.mem_of_mem_tail he);exact c e he;dsimp only;split
 exact d.sublist (List.tail_sublist _);exact d
theorem vG {s:eW} {N:Int} (h:io s N) {f:ej→ej} (hid: ∀e,(f e).id=e.id) (n: ∀e∈s.blocks,s.blocks.getLast?=some e→iN (f e) s.ids):io (jo s f) N:=by
 unfold jo setLast;cases d:s.blocks.getLast? with
 | none=>exact⟨h.most,h.len,h.ids,h.gk,h.pd,h.dir⟩
 | some e=>
  have j:s.blocks=s.blocks.dropLast++[e]:=by
   have k:s.blocks≠[]:=λo=>by rw[o] at d;cases d
   rw[v_ k] at d
   cases d
   exact (List.dropLast_concat_getLast k).symm
  have i:=h.len
  have l:=h.gk
  have g:=h.pd
  have p:e∈s.blocks:=by rw[j];simp
  rw[j] at i l g
  refine⟨h.most,by dsimp only;rw[b0,iS] at i ⊢;exact i,h.ids,λx c=>?_,?_,h.dir⟩;rcases cX.1 c with c | c
  exact l x (cX.2 (.inl c));rw[eL] at c;exact c▸n e p d
  rw[List.pairwise_append] at g ⊢
  exact⟨g.1,List.pairwise_singleton _ _,λa q b m=>by
   rw[eL] at m;subst m
   rw[hid];exact g.2.2 a q e av⟩
theorem Cx {e:ej} {N:Int} (h:iN e N):ei (gY e):=by
 unfold gY;cases a:e.pl.getLast? with
 | none=>rw[List.getLast?_eq_none_iff] at a;have:=h.pl;rw[a] at this;simp at this
 | some p=>rw[List.getLastD_eq_getLast?,a];exact h.pos p (t_ a)
theorem Cy {a b:bl} (h:ei a) (k:ei b):ei (hS a b):=by unfold hS;split <;> assumption
theorem yA {p:bl} (h:di p):ei p:=by simp only[di,dM] at h;exact⟨aa,aa⟩
theorem VU {s:eW} {N:Int} (h:io s N) {p:bl} (ai:ei p):ei (lu s p):=by
 unfold lu;split
 rename_i e a;exact Cy ai (Cx (h.gk e (t_ a)))
 exact ai
theorem Cz {e:ej} {N:Int} (h:iN e N) {n:Nat} (b:n≤4) {p:bl} (ai:ei p):iN (gA e n p) N:=by
 have:=h.pl
 refine⟨by simp only[gA,b0,g_];omega,λq a=>?_,h.id,h.nV⟩;rcases cX.1 a with a | a
 exact h.pos q a;exact (mV a).symm▸ai
theorem VV {s:eW} {N:Int} (h:io s N) (x:ls) (d:x.text.length≤256) (p:bl):io (gj s x p) (N+1):=by
 have b:io s (N+1):=h.mono aa
 unfold gj;split
 exact b;rename_i g;have ai:ei (lu s p):=VU h (yA (Classical.byContradiction g))
 split
 exact yz h ⟨a1,a1⟩ ai;split
 split
 exact vG b (λ_=>rfl) (λe a _=>Cz (h.gk e a) a1 ai);exact yz h ⟨a1,a1⟩ ai;split
 split
 exact vG b (λ_=>rfl) (λe a _=>Cz (h.gk e a) a1 ai);exact yz h ⟨a1,a1⟩ ai;split
 split
 exact vG b (λ_=>rfl) (λe a _=>by
  have c:=Cz (h.gk e a) (n:=4) a1 ai
  exact⟨c.pl,c.pos,c.id,c.nV⟩)
 exact b;split
 split
 exact vG b (λ_=>rfl) (λe a _=>⟨(h.gk e a).pl,(h.gk e a).pos,(h.gk e a).id,(h.gk e a).nV.1,d⟩);exact b;split
 have f:io { s with dir:=x.text } (N+1):=⟨h.most,h.len,b.ids,h.gk,h.pd,d⟩
 split
 exact vG f (λ_=>rfl) (λe a _=>⟨(h.gk e a).pl,(h.gk e a).pos,(h.gk e a).id,d,(h.gk e a).nV.2⟩);exact f;exact b
theorem CA (x:ed): ∀l,(jH x l).Sublist l
 | []=>List.Sublist.refl _
 | [_]=>List.Sublist.refl _
 | a::b::l=>by
  unfold jH;split
  exact (CA x (b::l)).cons a;exact List.Sublist.refl _
theorem VW {s:eW} {N:Int} (h:io s N) (x:ed):io (ry s x) N:=by
 unfold ry;split
 exact h;have f: ∀e,iN e s.ids→iN (rx x e) s.ids:=λe h=>⟨h.pl,h.pos,h.id,h.nV⟩
 have g: ∀e,iN e s.ids→iN (vE x e) s.ids:=λe h=>⟨by simpa [vE] using h.pl,λp ai=>by
  obtain⟨q,i,rfl⟩:=dF.1 ai;exact VT (h.pos q i) x,h.id,h.nV⟩
 have b:=CA x s.blocks
 refine⟨h.most,?_,h.ids,λe j=>?_,?_,h.dir⟩;dsimp only;rw[cN];have:=b.length_le
 have:=h.len
 split
 rw[cN];omega
 omega
 obtain⟨a,d,rfl⟩:=dF.1 j;refine g a ?_;split at d
 obtain⟨c,k,rfl⟩:=dF.1 d;exact f c (h.gk c (b.subset k));exact h.gk a d;dsimp only;rw[qx];split
 rw[qx];exact h.pd.sublist b;exact h.pd
theorem yB (q:bl): ∀l,(jI q l).map (·.id)=l.map (·.id)
 | []=>rfl
 | [_]=>rfl
 | e::f::l=>by
  have:=yB q (f::l)
  simp only[jI,lB] at this ⊢
  rw[this];rfl
theorem VX {s:eW} {N:Int} (h:io s N) (q:bl): (ka s q).Pairwise (λa b=>a.id<b.id):=by
 unfold ka;cases c:s.blocks with
 | nil=>exact List.pairwise_singleton _ _
 | cons e l=>
  have d:=yB (hS q (gY ((e::l).getLastD e))) (e::l)
  have f:=h.pd
  rw[c] at f
  have g: ((e::l).map (·.id)).Pairwise (· < ·):=qx.2 f
  rw[←d] at g
  refine List.pairwise_cons.2 ⟨λb i=>?_,qx.1 g⟩;have j:b.id∈(e::l).map (·.id):=by rw[←d];exact dF.2 ⟨b,i,rfl⟩
  obtain⟨a,k,m⟩:=dF.1 j;have:=(h.gk a (c▸k)).id
  show (0 :Int)<b.id
  omega
theorem VY {l:List eC} (h:l.Pairwise (λa b=>a.id<b.id)) {a b:eC} (e:a∈l) (g:b∈l) (f:a.id=b.id):a=b:=by
 induction l with
 | nil=>cases e
 | cons x l i=>
  rw[List.pairwise_cons] at h
  rcases eD.1 e with c | c <;> rcases eD.1 g with d | d
  rw[c,d];have:=h.1 b d;rw[c] at f;omega
  have:=h.1 a c;rw[d] at f;omega
  exact i h.2 c d
structure ql (b:eC):Prop where
 start:ei b.start
 input:ei b.input
 output:ei b.output
 done:ei b.done
 stop:ei b.stop
 nV:b.dir.length≤256∧b.line.length≤256
theorem yC {l:List bl} {q:bl} (h: ∀p∈l,ei p) (a:ei q) (i:Nat):ei (l.getD i q):=by
 rw[fy];cases hi:l[i]? with
 | none=>exact a
 | some p=>exact h p (c8 hi)
theorem Jq {e:ej} {N:Int} (h:iN e N):ei (mb e):=by
 unfold mb;cases ai:e.pl with
 | nil=>have:=h.pl;rw[ai] at this;simp at this
 | cons p l=>exact h.pos p (by rw[ai];simp)
theorem Jr {e:ej} {N:Int} (h:iN e N) {q:bl} (a:ei q):ql (mc e q):=
 ⟨yC h.pos a 0,yC h.pos a 1,yC h.pos a 2,yC h.pos a 3,a,h.nV⟩
theorem Js {N:Int} {q:bl} (c:ei q): ∀l:List ej,(∀e∈l,iN e N)→ ∀b∈jI q l,ql b
 | [],_,b,a=>by cases a
 | [e],h,b,a=>by
  rw[jI,eL] at a
  exact a▸Jr (h e av) c
 | e::f::l,h,b,a=>by
  rw[jI] at a
  rcases eD.1 a with rfl | a
  exact Jr (h e av) (Jq (h f av));exact Js c (f::l) (λx d=>h x (tZ _ d)) b a
theorem VZ {s:eW} {N:Int} (h:io s N) {q:bl} (d:ei q): ∀b∈ka s q,ql b:=by
 have j:ei ⟨0,0⟩:=⟨⟨a1,a1⟩,a1,a1⟩
 have g: ∀p,ei p→ql (gS p):=λp ai=>⟨j,ai,ai,ai,ai,by simp[gS],by simp[gS]⟩
 unfold ka;intro b a;split at a
 rw[eL] at a;exact a▸g q d
 rename_i e l k;have c: ∀x∈e::l,iN x s.ids:=λx m=>h.gk x (k▸m)
 rcases eD.1 a with rfl | a
 exact g _ (Jq (c e av));refine Js (Cy d (Cx (c _ ?_))) _ c b a;rw[List.getLastD_cons];rcases l with _ | ⟨f,l⟩
 simp
 exact tZ _ (by rw[List.getLastD_eq_getLast?];cases i: (f::l).getLast? with
  | none=>simp at i
  | some z=>exact t_ i)
theorem Jt {s:eW} (q:bl): (ka s q).length=s.blocks.length+1:=by
 unfold ka;split
 rename_i h;rw[h];rfl
 rename_i e l h;have:=aX List.length (yB (hS q (gY ((e::l).getLastD e))) (e::l))
 rw[cN,cN] at this
 rw[h,eK,this]
end Go.Proofs.YtkeokgcdnfjaaaaGreatDoor.Mq
namespace Go.Proofs.YtkeokgcdnfjaaaaGreatDoor.Mq
open Go Go.RowKit Go.Proofs Tryz
structure bc where
 g:Nat
 code:Int
 has:Bool
 cut:Bool
 dir:List UInt8
 line:List UInt8
 id:Int
 b8:bl
 dN:bl
 gc:bl
 mO:bl
 br:Nat
abbrev kM (e:bc):List Value:=[.int .i64 e.code,.bool e.has,.bool e.cut,.string (bs e.dir),.string (bs e.line),.int .u64 e.id,.int .i64 e.b8.row,.int .i64 e.b8.dm,.int .i64 e.dN.row,.int .i64 e.dN.dm,.int .i64 e.gc.row,.int .i64 e.gc.dm,.int .i64 e.mO.row,.int .i64 e.mO.dm,.int .i64 (e.br:Int)]
abbrev bc.an (e:bc):Chunk:=aD e.g (kM e) 150
def bc.at_ (e:bc) (i:Nat):bl:=match i with | 0=>e.b8 | 1=>e.dN | 2=>e.gc | _=>e.mO
def bc.set (e:bc) (i:Nat) (p:bl):bc:=match i with | 0=>{ e with b8:=p } | 1=>{ e with dN:=p } | 2=>{ e with gc:=p } | _=>{ e with mO:=p }
def bc.pl (e:bc):List bl:=[e.b8,e.dN,e.gc,e.mO].take e.br
def bc.abs (e:bc):ej:=⟨e.code,e.has,e.cut,e.dir,e.line,e.id,e.pl⟩
theorem Ju (e:bc) (i:Nat) (p:bl) (h:i<4):dd (kM e) (6+i*2) p.enc=kM (e.set i p):=by
 match i,h with
 | 0,_=>rfl
 | 1,_=>rfl
 | 2,_=>rfl
 | 3,_=>rfl
theorem CB (e:bc) (i:Nat) (h:i<4): ∀j u,(e.at_ i).enc[j]? = some u→(kM e)[6+i*2+j]? = some u:=by
 intro j u a;match j with
 | 0=>cases a;match i,h with
  | 0,_=>rfl
  | 1,_=>rfl
  | 2,_=>rfl
  | 3,_=>rfl
 | 1=>cases a;match i,h with
  | 0,_=>rfl
  | 1,_=>rfl
  | 2,_=>rfl
  | 3,_=>rfl
 | j+2=>cases a
theorem Jv (e:bc) (i:Nat) (p:bl): (e.set i p).g=e.g:=by unfold bc.set;split <;> rfl
theorem V0 (e:bc) (i:Nat) (p:bl): (e.set i p).br=e.br:=by unfold bc.set;split <;> rfl
theorem lv (e:bc) (h:e.br≤4):e.pl.length=e.br:=by simp[bc.pl];omega
theorem vH (e:bc) (h:e.br≤4) {i:Nat} (hi:i<e.br):e.pl[i]? = some (e.at_ i):=by
 unfold bc.pl;rw[is,ax hi];match i,(show i<4 by omega) with
 | 0,_=>rfl
 | 1,_=>rfl
 | 2,_=>rfl
 | 3,_=>rfl
theorem V1 (e:bc) (h:1≤e.br∧e.br≤4):gY e.abs=e.at_ (e.br - 1):=by
 unfold gY;rw[List.getLastD_eq_getLast?,List.getLast?_eq_getElem?];show (e.pl[e.pl.length - 1]?).getD _=_
 rw[lv e h.2,vH e h.2 aa];rfl
theorem vI (e:bc) (h:1≤e.br∧e.br≤4):mb e.abs=e.b8:=by
 unfold mb;rw[List.headD_eq_head?_getD,List.head?_eq_getElem?];show (e.pl[0]?).getD _=_
 rw[vH e h.2 aa];rfl
theorem V2 (e:bc) (p:bl) (h:e.br<4): ({ e.set e.br p with br:=e.br+1 }:bc).abs= { e.abs with pl:=e.pl++[p] }:=by
 obtain⟨g,code,has,cut,dir,line,id,b8,dN,gc,mO,br⟩:=e;match br,(show br<4 from h) with
 | 0,_=>rfl
 | 1,_=>rfl
 | 2,_=>rfl
 | 3,_=>rfl
theorem V3 (e:ej) (k:Nat) (p:bl) (h:e.pl.length≤k):gA e (k+1) p= { gA e k p with pl:=(gA e k p).pl++[p] }:=by
 unfold gA;rw[show k+1 - e.pl.length=(k - e.pl.length)+1 by omega,List.replicate_succ',e0]
theorem CC (e:ej) (k:Nat) (p:bl) (h:k≤e.pl.length):gA e k p=e:=by
 unfold gA;rw[show k - e.pl.length=0 by omega];simp
def jJ:bA Nat:=⟨λg=>[ptr g],1,λ_=>rfl,λ_=>aI.cons rfl aI.nil⟩
structure cL where
 g:Nat
 A:Option Addr
 c:Nat
 l:List bc
 most:Int
 ids:Int
 dir:List UInt8
abbrev rz (s:cL):List Value:=[.slice s.A s.l.length s.c,.int .i64 s.most,.int .u64 s.ids,.string (bs s.dir)]
abbrev cL.an (s:cL):Chunk:=aD s.g (rz s) 153
abbrev ek (A:Option Addr) (c:Nat) (l:List bc):Chunk:=gz 144 jJ.sz A l.length c (jJ.all (l.map bc.g))
abbrev eQ (l:List bc):Chunk:=aT (l.map bc.an)
abbrev cT (s:cL):List Chunk:=[s.an,ek s.A s.c s.l,eQ s.l]
def cL.abs (s:cL):eW:=⟨s.l.map bc.abs,s.most,s.ids,s.dir⟩
abbrev gl (l:List bc):Prop:= ∀e∈l,1≤e.br∧e.br≤4
structure fF (s:cL) (N:Int):Prop where
 wf:io s.abs N
 br:gl s.l
theorem fF.len {s:cL} {N:Int} (h:fF s N): (s.l.length:Int)≤s.most∧1≤s.most∧s.most≤10000:=by
 have a:=h.wf.len
 have b:=h.wf.most
 simp only[cL.abs,cN] at a b
 omega
theorem nW {w:World} {c:Nat} {l:List bc} {g o:Nat} (h: (ek (some ⟨g,o,none⟩) c l).pred w) {k:Nat} {e:bc} (b:l[k]? = some e):w.cell? ((⟨g,o,none⟩ :Addr).add (k*1))=some (ptr e.g):=by
 have:=VK (E:=jJ) h av rfl (k:=k) (a:=e.g) (by rw[eJ,b];rfl) 0 (ptr e.g) rfl
 rw[Addr.add_lit,Addr.add_lit,Nat.add_zero] at this
 rw[Addr.add_lit];exact this
theorem me {w:World} {l:List bc} (h: (eQ l).pred w) {e:bc} (a:e∈l):e.an.pred w:=h e.an (dF.2 ⟨e,a,rfl⟩)
theorem vJ (w:World) (a b:Int):Calls prog 121 [.pointer none,.int .i64 a,.int .i64 b].toArray w (Pure (.bool false) w):=by
 refine aW func121 ntmps121 ?_;refine w8 ?_;intro d c;exact⟨rfl,c.ext⟩
theorem CD (w:World) (p:bl):Calls prog 85 [d9 p].toArray w (Pure (.bool (decide (di p))) w):=by
 refine aW func85 ntmps85 ?_;refine ah ?_;intro h i j;refine aJ ?_;refine aV 6 rfl (λb=>?_) (λb=>?_);have e:=aY b
 refine aK ?_;refine aV 11 rfl (λaH=>?_) (λaH=>?_);have f:=aY aH
 refine aK ?_;refine aV 16 rfl (λc=>?_) (λc=>?_);have g:=aY c
 refine bw ?_;intro d a;exact⟨by rw[Ending.returned.injEq,Value.bool.injEq];symm;simp only[dM,di] at *;(rw[gG];omega),a.ext⟩;have g:=a8 c
 refine aJ ?_;intro d a;exact⟨by rw[Ending.returned.injEq,Value.bool.injEq];symm;simp only[dM,di] at *;(rw[e2];omega),a.ext⟩;have f:=a8 aH
 refine b5 ?_;intro d a;exact⟨by rw[Ending.returned.injEq,Value.bool.injEq];symm;simp only[dM,di] at *;(rw[e2];omega),a.ext⟩;have e:=a8 b
 refine eG ?_;intro d a;exact⟨by rw[Ending.returned.injEq,Value.bool.injEq];symm;simp only[dM,di] at *;(rw[e2];omega),a.ext⟩
theorem V4 (w:World) (n:Int) (h:1≤n∧n≤10000):Calls prog 36 [.int .i64 n].toArray w
 (aP (λg:Nat=> .tuple #[ptr g,.int .i64 0]) [] (λg=>cT ⟨g,none,0,[],n,0,[]⟩) (λ_=>True) w):=by
 refine aW func36 ntmps36 ?_;refine bw ?_;refine aV 6 rfl (λa=>?_) (λa=>?_);have e:=aY a
 refine cE ?_;intro d b
 (exfalso;omega)
 have e:=a8 a
 refine aC ?_;refine aj (λaH=>?_) (λaH=>?_);refine aJ ?_;intro d b
 (exfalso;omega)
 refine aC ?_;intro f j k;refine al ?_;intro d b;exact aP.bP f aU rfl ((((b.mZ (c:=eQ []) (λc i=>by simp at i) rfl).mZ (c:=ek none 0 []) (VI _ _ _) rfl)).aw ae)
theorem Jw (w:World) (e:bc) (c:e.an.pred w) (ai:1≤e.br∧e.br≤4):Calls prog 61 [ptr e.g].toArray w (Pure (d9 (gY e.abs)) w):=by
 rw[V1 e ai];refine aW func61 ntmps61 ?_;refine ah ?_;intro k l m;refine ah ?_;refine bG [0,1,2,3,4,5,6,7,8,9] 1 [[(10,true,[])]] ?_;refine aS ?_;refine aL rfl (λd a=>(ba bM rfl rfl (λf b=>by subst b;exact a.bV c (by (simp;done)) rfl) aG)) ?_;refine ah ?_;refine aL rfl (λd a=>(dq (q:=e.br - 1) underlying148 mv rfl rfl rfl aa aa aG)) ?_;refine aL rfl (λd a=>(cw (vs:=(e.at_ (e.br - 1)).enc) em rfl rfl rfl (λf b j u h=>by subst b;rw[Addr.add_lit];exact a.bV c av (CB e (e.br - 1) aa j u h)) aG)) ?_;refine aJ ?_;intro n i;exact⟨rfl,i.ext⟩
theorem vK (w:World) (e:bc) (h:e.an.pred w) (a b:Int):Calls prog 121 [ptr e.g,.int .i64 a,.int .i64 b].toArray w (Pure (.bool (decide (a≤(e.br:Int)∧(e.br:Int)≤b))) w):=by
 refine aW func121 ntmps121 ?_;refine ef ?_;refine ba bM rfl rfl (λi c=>c.bV h (by (simp;done)) rfl) ?_;refine al ?_;refine aV 17 rfl (λd=>?_) (λd=>?_);have j:=aY d
 refine aC ?_;refine ba bM rfl rfl (λi c=>c.bV h (by (simp;done)) rfl) ?_;refine aR ?_;intro k f;exact⟨by rw[Ending.returned.injEq,Value.bool.injEq];symm;(rw[gG];omega),f.ext⟩;have j:=a8 d
 refine bw ?_;intro k f;exact⟨by rw[Ending.returned.injEq,Value.bool.injEq];symm;(rw[e2];omega),f.ext⟩
theorem yD (w:World) (e:bc) (b:e.an.pred w) (ai:e.br≤4):Calls prog 82 [ptr e.g].toArray w (Pure (.slice (some ⟨e.g,6,none⟩) e.br 4) w):=by
 refine aW func82 ntmps82 ?_;refine al ?_;refine bG [0,1,2,3,4,5,6,7,8] 0 [[]] ?_;refine al ?_;refine aL rfl (λc a=>(ba bM rfl rfl (λh d=>by subst d;exact a.bV b (by (simp;done)) rfl) aG)) ?_;refine aL rfl (λc a=>(Jo (sz:=2) e.br underlying148 sizeOf40 rfl rfl (.inl ⟨_,_,rfl,rfl,rfl⟩) ai aG)) ?_;refine al ?_;intro i f;exact⟨rfl,f.ext⟩
theorem V5 (w:World) (s:cL) (a:s.an.pred w):Calls prog 58 [ptr s.g].toArray w (Pure (.int .i64 (s.l.length:Int)) w):=by
 refine aW func58 ntmps58 ?_;refine hh ?_;refine ba mw rfl rfl (λd b=>b.bV a (by (simp;done)) rfl) ?_;refine al ?_;intro e c;exact⟨rfl,c.ext⟩
theorem CE (w:World) (s:cL) (f:s.an.pred w) (ai: (ek s.A s.c s.l).pred w):Calls prog 60 [ptr s.g].toArray w (Pure (match s.l.getLast? with | some e=>ptr e.g | none=> .pointer none) w):=by
 have m:=yx ai
 have t:=m.2.1
 simp only[maxLen] at t
 refine aW func60 ntmps60 ?_;rcases gF s.l.length with h | h
 have u:s.l=[]:=iR h
 refine bo ?_;refine ba mw rfl rfl (λv i=>i.bV f (by (simp;done)) rfl) ?_;refine aS ?_;refine aj (λb=>?_) (λb=>?_);refine aK ?_;intro x j;exact⟨by rw[u];rfl,j.ext⟩;exact absurd (show (s.l.length:Int)=0 by omega) b;obtain⟨y,o,n⟩:=m.2.2 h;obtain⟨e,p⟩ : ∃e,s.l[s.l.length - 1]? = some e:=⟨_,bE aa⟩;rw[n] at ai
 rw[List.getLast?_eq_getElem?,p];refine bo ?_;refine ba mw rfl rfl (λv i=>i.bV f (by (simp;done)) rfl) ?_;refine aS ?_;refine aj (λb=>?_) (λb=>?_);exact absurd b aa;refine ah ?_;refine bG [0,1,2,3,4,5,6,7,8,9,10,11,12] 0 [[]] ?_;refine ah ?_;refine aL rfl (λk a=>(ba mw rfl rfl (λr d=>by subst d;exact a.bV f (by (simp;done)) rfl) aG)) ?_;refine ah ?_;refine aL rfl (λk a=>(ba mw rfl rfl (λr d=>by subst d;exact a.bV f (by (simp;done)) rfl) aG)) ?_;refine ar ?_;refine aL rfl (λk a=>(bD (q:=s.l.length - 1) kZ rfl rfl rfl n aa aa aG)) ?_;refine aL rfl (λk a=>(ba m9 rfl rfl (λr d=>by subst d;exact a.ct (nW ai p) av) aG)) ?_;refine al ?_;intro x j;exact⟨rfl,j.ext⟩
section
theorem V6 (l:List Nat) (a:Nat):jJ.all (l++[a])=jJ.all l++[ptr a]:=bA.hc jJ l a
theorem Jx (w:World) (e:bc) (k:bb w [e.an]) (n:Nat) (x:n≤4) (ai:e.br≤4) (p:bl):Calls prog 122 [ptr e.g,.int .i64 (n:Int),d9 p].toArray w
 (aP (λ_:bc=> .tuple #[]) [e.an] (λz=>[z.an]) (λz=>z.g=e.g∧z.abs=gA e.abs n p∧z.br≤4∧(z.br=n∨z.br=e.br∧n<e.br)) w):=by
 refine bI func122 ntmps122 k ?_;refine ah ?_;intro c A B;refine ah ?_;refine b3 (ι:=bc) (λz=>[(0,ptr z.g),(1,.int .i64 (n:Int)),(5,ptr c)]) (λz=>af w (aB [e.an]) [aD c p.enc 40,z.an]) (λz=>z.g=e.g∧z.abs=gA e.abs z.br p∧e.br≤z.br∧z.br≤4∧(z.br≤n∨z.br=e.br)) (λz=>4 - z.br) ?_ ?_;exact λw' l=>⟨e,⟨rfl,(CC _ _ _ (by rw[show e.abs.pl=e.pl from rfl,lv e ai];exact cd _)).symm,cd _,ai,.inr rfl⟩,(dZ rfl rfl rfl),l⟩
 rintro z ⟨d,b,m,r,s⟩;refine bo ?_;refine aj (λt=>?_) (λt=>?_);have f:z.br<4:=by omega
 have i: ({ z.set z.br p with br:=z.br+1 }:bc).abs=gA e.abs (z.br+1) p:=by
  rw[V2 z p f,V3 _ _ _ (by rw[show e.abs.pl=e.pl from rfl,lv e ai];exact m),←b];rfl
 refine aS ?_;refine bG [0,1,2,3,4,5,6,7,8] 1 [[(9,true,[])]] ?_;refine aK ?_;refine aL rfl (λC D=>(dq (q:=z.br) underlying148 mv rfl rfl rfl rfl aa aG)) ?_;refine ar ?_;refine eX (g:=z.g) (o:=6+z.br*2) (vs:=p.enc) (xs:=kM z) (te:=150) em rfl rfl (by rw[Ju _ _ _ f];exact eo) rfl (w2 rfl rfl) (by show 6+z.br*2+2≤15;omega) ?_;refine ar ?_;obtain⟨y,a⟩ : ∃y,y=z.set z.br p:=⟨_,rfl⟩;have j:y.g=z.g:=by rw[a];exact Jv _ _ _
 have u:y.br=z.br:=by rw[a];exact V0 _ _ _
 rw[←a] at i
 rw[←a,←j];refine bH ?_;refine bg ({ y with br:=z.br+1 }:bc) ⟨j.trans d,i,by dsimp only;omega,by dsimp only;omega,.inl bm⟩ bm (dZ rfl rfl rfl) (λ_ h=>?_);rw[u] at h
 exact h.aw ae;refine ay ?_;intro E v;refine aN z ⟨d,?_,r,aa⟩ v;rcases s with h | h
 rw[b,show z.br=n by omega];rw[b,h,CC _ n _ (by rw[show e.abs.pl=e.pl from rfl,lv e ai];omega),CC _ _ _ (by rw[show e.abs.pl=e.pl from rfl,lv e ai];exact cd _)]
theorem V7 (A:Option Addr) (c:Nat) (l:List bc) (z:bc):gz 144 jJ.sz A (l.length+1) c (jJ.all (l.map bc.g)++[ptr z.g])=ek A c (l++[z]):=by
 show _=gz 144 jJ.sz A (l++[z]).length c (jJ.all ((l++[z]).map bc.g))
 rw[b0,gb];exact aX _ (V6 _ _).symm
theorem Jy {A:Option Addr} {c:Nat} {l:List bc} {w:World} (a:1≤l.length) (h: (ek A c l).pred w): (ek (A.map (·.add (1*1))) (c - 1) l.tail).pred w:=by
 have b:=VL a h
 cases l with
 | nil=>simp at a
 | cons x l=>exact b
theorem af.Jz {b w:World} {S:List Nat} {cs:List Chunk} {l:List bc} {z:bc} (h:af b S (z.an::eQ l::cs) w):af b S (eQ (l++[z])::cs) w:=by
 have a:af b S (aT [z.an]::eQ l::cs) w:=h.close (l:=[z.an]) ae
 show af b S (aT ((l++[z]).map bc.an)::cs) w
 rw[gb];exact (a.perm (List.Perm.swap _ _ _)).AK
theorem af.V8 {b w:World} {S:List Nat} {cs:List Chunk} {l:List bc} (h:af b S (eQ l::cs) w):af b S (eQ l.tail::cs) w:=by
 cases l with
 | nil=>exact h
 | cons x l=>exact h.PG (r:=[x.an]) (List.Perm.refl _)
abbrev CF (g:Nat) (dir:List UInt8) (id:Int):bc:=⟨g,0,false,false,dir,[],id,⟨0,0⟩,⟨0,0⟩,⟨0,0⟩,⟨0,0⟩,0⟩
theorem JA {l:List bc} {z:bc} (h:gl l) (a:1≤z.br∧z.br≤4):gl (l++[z]):=λe he=>by
 rcases cX.1 he with he | he
 exact h e he;rw[eL] at he;exact he▸a
section
variable {g:Nat} {A dE:Option Addr} {c c9:Nat} {l:List bc} {most ids N:Int} {dir:List UInt8} {n:Nat} {p:bl} {z:bc}
theorem JB (a:z.abs=⟨0,false,false,dir,[],ids+1,List.replicate n p⟩):gB (cL.abs ⟨g,A,c,l,most,ids,dir⟩) n p=⟨if most<(l.length:Int)+1 then (l++[z]).tail.map bc.abs else (l++[z]).map bc.abs,most,ids+1,dir⟩:=by
 unfold gB cL.abs;dsimp only;rw[←a,b0,cN,iS,List.map_tail,gb];rfl
theorem V9 (a:io (gB (cL.abs ⟨g,A,c,l,most,ids,dir⟩) n p) (N+1)) (b:gl (l++[z])) (d:z.abs=⟨0,false,false,dir,[],ids+1,List.replicate n p⟩) (h: ¬most<(l.length:Int)+1):
 (⟨g,dE,c9,l++[z],most,ids+1,dir⟩ :cL).g=g∧fF ⟨g,dE,c9,l++[z],most,ids+1,dir⟩ (N+1)∧(⟨g,dE,c9,l++[z],most,ids+1,dir⟩ :cL).abs=gB (cL.abs ⟨g,A,c,l,most,ids,dir⟩) n p:=by
 have e:=JB (g:=g) (A:=A) (c:=c) (l:=l) (most:=most) d
 rw[ag h] at e
 rw[e] at a ⊢
 exact⟨rfl,⟨a,b⟩,rfl⟩
theorem V_ (a:io (gB (cL.abs ⟨g,A,c,l,most,ids,dir⟩) n p) (N+1)) (b:gl (l++[z])) (d:z.abs=⟨0,false,false,dir,[],ids+1,List.replicate n p⟩) (h:most<(l.length:Int)+1):
 (⟨g,dE,c9,(l++[z]).tail,most,ids+1,dir⟩ :cL).g=g∧fF ⟨g,dE,c9,(l++[z]).tail,most,ids+1,dir⟩ (N+1)∧(⟨g,dE,c9,(l++[z]).tail,most,ids+1,dir⟩ :cL).abs=gB (cL.abs ⟨g,A,c,l,most,ids,dir⟩) n p:=by
 have e:=JB (g:=g) (A:=A) (c:=c) (l:=l) (most:=most) d
 rw[ax h] at e
 rw[e] at a ⊢
 exact⟨rfl,⟨a,λx f=>b x (List.mem_of_mem_tail f)⟩,rfl⟩
theorem Wa {b w:World} {S:List Nat} (h:af b S [z.an,eQ l,aD g [.slice dE (l.length+1) c9,.int .i64 most,.int .u64 ids,.string (bs dir)] 153,ek dE c9 (l++[z])] w):af b S (cT ⟨g,dE,c9,l++[z],most,ids,dir⟩) w:=by
 have a: (l++[z]).length=l.length+1:=by simp
 simp only[cT,cL.an,rz,a];exact h.Jz.aw ae
theorem Wb {b w:World} {S:List Nat} (h:af b S [z.an,eQ l,aD g [.slice dE (l.length+1 - 1) c9,.int .i64 most,.int .u64 ids,.string (bs dir)] 153,ek dE c9 (l++[z]).tail] w):af b S (cT ⟨g,dE,c9,(l++[z]).tail,most,ids,dir⟩) w:=by
 have a: (l++[z]).tail.length=l.length+1 - 1:=by simp
 simp only[cT,cL.an,rz,a];exact h.Jz.V8.aw ae
end
theorem Wc (w:World) (s:cL) (t:bb w (cT s)) {N:Int} (a:fF s N) (H:N≤1000000000000000) (n:Nat) (j:1≤n∧n≤4) (p:bl) (ai:ei p):Calls prog 120 [ptr s.g,.int .i64 (n:Int),d9 p].toArray w
 (aP (λ_:cL=> .tuple #[]) (cT s) cT (λz=>z.g=s.g∧fF z (N+1)∧z.abs=gB s.abs n p) w):=by
 have u:=a.len
 have v:0≤s.ids∧s.ids≤N:=a.wf.ids
 have k:=yz a.wf j ai
 have d:=a.br
 obtain⟨g,A,c,l,most,ids,dir⟩:=s;dsimp only at u v d
 refine calls (n:=57) func120 rfl ntmps120 rfl ?_;refine cG (H':=af w (aB (cT ⟨g,A,c,l,most,ids,dir⟩)) [aD g [.slice A l.length c,.int .i64 most,.int .u64 ids,.string (bs dir)] 153,ek A c l,eQ l]) ?_ (Sub.refl _) t.start;refine ah ?_;intro I J K;refine aK ?_;refine gH (r:=ids+1) rfl rfl rfl (by simp[IntKind.wrap,IntKind.bits,IntKind.signed];omega) ?_;refine al ?_;refine bG [0,1,2,3,4,5,6,7,8,9] 1 [[(10,false,[11])]] ?_;refine aK ?_;refine aL rfl (λx y=>(ki (out:=[.int .i64 0,.bool false,.bool false,.string (bs dir),.string (bs [])]) LK rfl rfl rfl aG)) ?_;refine aL rfl (λx y=>(ki (out:=kM (CF 0 dir (ids+1))) LM rfl rfl rfl aG)) ?_;refine ah ?_;intro b L M;refine bY (λ_=>True) (λ_ h=> .inr (h.rem bv.head)) (λ_ h=>aU) ?_;refine aJ ?_;refine aZ (l0:=[(CF b dir (ids+1)).an]) ae rfl wF rfl (λB C=>Jx B (CF b dir (ids+1)) (C.bp ae) n j.2 (bN _) p) (λz D=>?_);obtain⟨o,q,O,P⟩:=D;dsimp only at o
 refine bo ?_;intro Q R S;refine VQ (m:=l.length) (A:=A) (c:=c) (vs:=[ptr b]) (xs:=jJ.all (l.map bc.g)) kZ rfl rfl rfl aQ rfl (aI.cons rfl aI.nil) (by simp only[maxLen];omega) aa (λ_ _=>jb) (λdE c9=>?_);refine Cu (c:=gz 144 jJ.sz dE (l.length+1) c9 (jJ.all (l.map bc.g)++[ptr b])) (c':=ek dE c9 (l++[z])) jb (by cases dE <;> rfl) (λw h=>by rw[←V7,o];exact h) ?_;refine VO (m:=(l++[z]).length) (A:=dE) (c:=c9) iz (λE=>?_);rw[b0,iS] at E
 refine al ?_;refine bG [0,1,2,3,4,5,6,7,8,9] 0 [[]] ?_;refine bH ?_;refine aj (λF=>?_) (λF=>?_);refine al ?_;refine fh 1 (l.length+1) kZ rfl rfl (.inl ⟨_,_,rfl,rfl,rfl⟩) (.inr ⟨rfl,rfl⟩) aa aa ?_;rw[ag aa];refine Cu (c:=ek dE c9 (l++[z])) (c':=ek (dE.map (·.add (1*1))) (c9 - 1) (l++[z]).tail) jb (Jl _ _ _ _ _ _ _ _ _ _) (λw h=>Jy av h) ?_;refine ay ?_;intro G e;have f:z.abs=⟨0,false,false,dir,[],ids+1,List.replicate n p⟩:=by rw[q];rfl
 have i:gl (l++[z]):=JA d aa
 exact aP.bP ⟨g,dE.map (·.add (1*1)),c9 - 1,(l++[z]).tail,most,ids+1,dir⟩ (V_ k i f aa) rfl (Wb (e.aw ae));refine ar ?_;intro G e;have f:z.abs=⟨0,false,false,dir,[],ids+1,List.replicate n p⟩:=by rw[q];rfl
 have i:gl (l++[z]):=JA d aa
 exact aP.bP ⟨g,dE,c9,l++[z],most,ids+1,dir⟩ (V9 k i f aa) rfl (Wa (e.aw ae))
end
theorem Wd {l:List bc} {k:Nat} {e z:bc} (a:l[k]? = some e) (b:z.g=e.g): (l.set k z).map bc.g=l.map bc.g:=by
 rw[n5,b];apply ml
 intro i;rw[n3];split
 rename_i h;subst h;rw[ax (by rw[cN];exact (cU.1 a).1),eJ,a];rfl
 rfl
theorem We {A:Option Addr} {c:Nat} {l:List bc} {k:Nat} {e z:bc} (a:l[k]? = some e) (b:z.g=e.g):ek A c (l.set k z)=ek A c l:=by
 show gz _ _ _ (l.set k z).length _ (jJ.all ((l.set k z).map bc.g))=_
 rw[Wd a b,fT]
theorem af.CG {b w:World} {S:List Nat} {cs:List Chunk} {l:List bc} {k:Nat} {e z:bc} (h:af b S (z.an::aT ((l.map bc.an).eraseIdx k)::cs) w) (c:l[k]? = some e):af b S (eQ (l.set k z)::cs) w:=by
 have a:=h.Jm (k:=k) (by rw[cN];exact (cU.1 c).1)
 rw[←n5] at a
 exact a
theorem CH {l:List bc} {e:bc} (h:l.getLast?=some e):l[l.length - 1]? = some e∧1≤l.length:=by
 refine⟨by rw[←List.getLast?_eq_getElem?];exact h,?_⟩;cases l with
 | nil=>cases h
 | cons x l=>simp
theorem Wg {l:List bc} {e z:bc} {f:ej→ej} (h:l.getLast?=some e) (a:f e.abs=z.abs): (l.set (l.length - 1) z).map bc.abs=setLast (l.map bc.abs) f:=by
 have b: (l.map bc.abs).getLast?=some e.abs:=by rw[List.getLast?_map,h];rfl
 have c:=CH h
 unfold setLast;rw[b];dsimp only;rw[a,n5,qz,ax (by rw[cN];omega),List.dropLast_eq_take,cN,n0 (by rw[cN];omega)]
structure jp (s:cL) (N:Int) (x:ls) (p:bl) (z:cL):Prop where
 g:z.g=s.g
 ok:fF z (N+1)
 abs:z.abs=gj s.abs x p
theorem jp.of {s:cL} {N:Int} {x:ls} {p:bl} (b:fF s N) (c:x.text.length≤256) {z:cL} (d:z.g=s.g) (ai:gl z.l) (a:z.abs=gj s.abs x p):jp s N x p z:=⟨d,⟨a▸VV b.wf x c p,ai⟩,a⟩
theorem Wh {l:List bc} {k:Nat} {z:bc} (h:gl l) (b:1≤z.br∧z.br≤4):gl (l.set k z):=λe c=>by
 rcases rP c with a | a
 exact h e a;exact a▸b
theorem Wi {s:cL} {e:bc} (f:s.l.getLast?=some e) (g:1≤e.br∧e.br≤4) (x:ls) {p:bl} (i:di p):gj s.abs x p=
 if x.kind=1 then gB s.abs 1 (hS p (gY e.abs)) else
 if x.kind=2 then (if 1≤(e.br:Int)∧(e.br:Int)≤1 then jo s.abs (λc=>gA c 2 (hS p (gY e.abs))) else gB s.abs 2 (hS p (gY e.abs))) else
 if x.kind=3 then (if 1≤(e.br:Int)∧(e.br:Int)≤2 then jo s.abs (λc=>gA c 3 (hS p (gY e.abs))) else gB s.abs 3 (hS p (gY e.abs))) else
 if x.kind=4 then (if 1≤(e.br:Int)∧(e.br:Int)≤3 then jo s.abs (λc=>{ gA c 4 (hS p (gY e.abs)) with code:=x.code,has:=x.has }) else s.abs) else
 if x.kind=5 then (if 1≤(e.br:Int)∧(e.br:Int)≤3 then jo s.abs (λc=>{ c with line:=x.text }) else s.abs) else
 if x.kind=6 then (if 1≤(e.br:Int)∧(e.br:Int)≤2 then jo { s.abs with dir:=x.text } (λc=>{ c with dir:=x.text }) else { s.abs with dir:=x.text }) else s.abs:=by
 have d:s.abs.blocks.getLast?=some e.abs:=by show (s.l.map bc.abs).getLast?=_;rw[List.getLast?_map,f];rfl
 have j:lu s.abs p=hS p (gY e.abs):=by unfold lu;rw[d]
 have k: ∀(t:eW) (a b:Nat),t.blocks=s.abs.blocks→(pc t a b=true)=((a:Int)≤(e.br:Int)∧(e.br:Int)≤(b:Int)):=λt a b m=>by
  unfold pc;rw[m,d];have n:e.abs.pl.length=e.br:=lv e g.2
  dsimp only;rw[n,dY,e3,e3];exact propext ⟨λh=>⟨aa,aa⟩,λh=>⟨aa,aa⟩⟩
 unfold gj;rw[ag (Classical.not_not.2 i),j];simp only[k _ _ _ rfl];rfl
theorem Wj {s:cL} (d:s.l.getLast?=none) (x:ls) {p:bl} (e:di p):gj s.abs x p=
 if x.kind=1 then gB s.abs 1 p else
 if x.kind=2 then gB s.abs 2 p else
 if x.kind=3 then gB s.abs 3 p else
 if x.kind=6 then { s.abs with dir:=x.text } else s.abs:=by
 have c:s.abs.blocks.getLast?=none:=by show (s.l.map bc.abs).getLast?=_;rw[List.getLast?_map,d];rfl
 have f:lu s.abs p=p:=by unfold lu;rw[c]
 have g: ∀(t:eW) (a b:Nat),t.blocks=s.abs.blocks→pc t a b=false:=λt a b i=>by unfold pc;rw[i,c]
 unfold gj;rw[ag (Classical.not_not.2 e),f];simp only[g _ _ _ rfl,Bool.false_eq_true,if_false];split
 rfl
 split
 rfl
 split
 rfl
 split
 rename_i h;rw[ag aa]
 split
 rename_i h;rw[ag aa]
 rfl
theorem CI (w:World) (e:bc) (a:bb w [e.an]) (n:Int) (k:Nat) (b:n=(k:Int)) (c:k≤4) (ai:e.br≤4) (p:bl):Calls prog 122 [ptr e.g,.int .i64 n,d9 p].toArray w
 (aP (λ_:bc=> .tuple #[]) [e.an] (λz=>[z.an]) (λz=>z.g=e.g∧z.abs=gA e.abs k p∧z.br≤4∧(z.br=k∨z.br=e.br∧k<e.br)) w):=by subst b;exact Jx w e a k c ai p
theorem tF (w:World) (s:cL) (a:bb w (cT s)) {N:Int} (b:fF s N) (c:N≤1000000000000000) (n:Int) (k:Nat) (d:n=(k:Int)) (e:1≤k∧k≤4) (p:bl) (ai:ei p):Calls prog 120 [ptr s.g,.int .i64 n,d9 p].toArray w
 (aP (λ_:cL=> .tuple #[]) (cT s) cT (λz=>z.g=s.g∧fF z (N+1)∧z.abs=gB s.abs k p) w):=by subst d;exact Wc w s a b c k e p ai
abbrev CJ (x:ls):Value:= .agg [.int .i64 x.kind,.int .i64 x.code,.bool x.has,.string (bs x.text)].toArray
def yE (s:cL) (N:Int) (x:ls) (p:bl) (w:World):Ending→World→Prop:=aP (λ_:cL=> .tuple #[]) (cT s) cT (jp s N x p) w
theorem Wk (w:World) (s:cL) (A:bb w (cT s)) {N:Int} (e:fF s N) (o:N≤1000000000000000) (x:ls) (i:x.text.length≤256) (p:bl) (r:s.l.getLast?=none):Calls prog 75 [ptr s.g,CJ x,d9 p].toArray w (yE s N x p w):=by
 have j:=e.br
 refine bI func75 ntmps75 A ?_;refine ah ?_;intro G H I;refine aq ?_;intro J K L;refine bo ?_;refine ao rfl zx rfl (λa c=>CD a p) ?_;refine ay ?_;refine b2 rfl (λk=>?_) (λk=>?_);have m: ¬di p:=λh=>by rw[b1 h] at k;exact absurd k a1
 refine ah ?_;intro f b;exact aN s (jp.of e i rfl j (by unfold gj;rw[ax m])) b;have m:di p:=Classical.byContradiction λh=>by rw[cm h] at k;exact absurd k a1
 have ai:=yA m
 have n:=Wj r x m
 have B:x.kind=1→gB s.abs 1 p=gj s.abs x p:=λh=>by rw[n,ax h]
 have t:x.kind=2∨x.kind=3→gB s.abs x.kind.toNat p=gj s.abs x p:=λh=>by
  rcases h with h | h <;> rw[n,h] <;> rfl
 have C:x.kind=6→({ s with dir:=x.text }:cL).abs=gj s.abs x p:=λh=>by rw[n,h];rfl
 have q: ¬x.kind=1∧ ¬x.kind=2∧ ¬x.kind=3∧ ¬x.kind=6→s.abs=gj s.abs x p:=λh=>by rw[n,ag h.1,ag h.2.1,ag h.2.2.1,ag h.2.2.2]
 refine ay ?_;refine ao rfl zv rfl (λa c=>(by have h:=CE a s (c.has cp) (c.has hD);rw[r] at h;exact h)) ?_;refine lJ ?_;refine aj (λu=>?_) (λu=>?_);refine ah ?_;refine aZ (l0:=cT s) ae rfl sd rfl (λa c=>tF a s (c.bp ae) e o _ 1 rfl aa p ai) (λz d=>?_);refine ah ?_;intro f b;exact aN z ⟨d.1,d.2.1,d.2.2.trans (B u)⟩ b;refine aC ?_;refine aj (λaH=>?_) (λaH=>?_);have v:=aH
 refine ar ?_;refine ev rfl ((b1 v)) ?_;refine bw ?_;refine ao rfl m_ rfl (λa c=>vJ a _ _) ?_;refine aC ?_;refine aZ (l0:=cT s) ae rfl sd rfl (λa c=>tF a s (c.bp ae) e o _ x.kind.toNat aa aa p ai) (λz d=>?_);refine ah ?_;intro f b;exact aN z ⟨d.1,d.2.1,d.2.2.trans (t aa)⟩ b;have v:=aH
 refine ay ?_;refine aj (λD=>?_) (λD=>?_);refine bw ?_;refine ao rfl m_ rfl (λa c=>vJ a _ _) ?_;refine aC ?_;refine aZ (l0:=cT s) ae rfl sd rfl (λa c=>tF a s (c.bp ae) e o _ x.kind.toNat aa aa p ai) (λz d=>?_);refine ah ?_;intro f b;exact aN z ⟨d.1,d.2.1,d.2.2.trans (t aa)⟩ b;refine al ?_;refine aj (λE=>?_) (λE=>?_);refine ah ?_;refine ao rfl m_ rfl (λa c=>vJ a _ _) ?_;refine al ?_;intro f b;exact aN s (jp.of e i rfl j (q aa)) b;refine al ?_;refine aj (λF=>?_) (λF=>?_);refine ah ?_;refine ao rfl m_ rfl (λa c=>vJ a _ _) ?_;refine al ?_;intro f b;exact aN s (jp.of e i rfl j (q aa)) b;refine al ?_;refine aj (λy=>?_) (λy=>?_);refine bH ?_;refine ao rfl m_ rfl (λa c=>vJ a _ _) ?_;refine al ?_;intro f b;exact aN { s with dir:=x.text } (jp.of e i rfl j (C y)) b;refine ah ?_;intro f b;exact aN s (jp.of e i rfl j (q aa)) b
end Go.Proofs.YtkeokgcdnfjaaaaGreatDoor.Mq
