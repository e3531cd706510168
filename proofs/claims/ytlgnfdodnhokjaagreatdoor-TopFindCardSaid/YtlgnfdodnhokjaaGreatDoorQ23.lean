/- part 23 of the proof -/
import Derived.Test.YtlgnfdodnhokjaaGreatDoorQ19
import Derived.Test.YtlgnfdodnhokjaaGreatDoorQ22
namespace Go.Proofs.YtlgnfdodnhokjaaGreatDoor.Mq
open Go Go.RowKit Go.Proofs Tryz
section
abbrev tB (l:List dT):List Chunk:=l.map (λe=>e.nums.aF)
section
variable {b:World} {S:List Nat} {cs:List Chunk} {w:World}
theorem af.BY {l m:List dT} (h:af b S (aR (tB l)::aR (tB m)::cs) w):af b S (aR (tB (l++m))::cs) w:=by
 unfold tB;rw[fQ];exact h.BU
theorem af.vF {l:List dT} {e:dT} (h:af b S (aR (tB l)::cs) w) (a:e.nums=qo):af b S (aR (tB (l++[e]))::cs) w:=
 ((h.BT [e] (by simpa using a)).perm (List.Perm.swap _ _ _)).BY
end
def m_ (p:ce):List Int→ce→List hc→Prop
 | [],q,cI=>q.h=p.h∧q.state=p.state∧cI=[]
 | [r],q,cI=>0≤r→r<127→q.h=p.h∧q.state=p.state∧cI=[if r<32 then ⟨1,0,r,0,[],[],false⟩ else ⟨0,r,0,0,[],[],false⟩]
 | _::_::_,_,_=>True
theorem m_.step {p q:ce} {L:List Int} {k:Nat} {r:Int} {cI:List hc} (c:L[k]? = some r) (h:k=0→m_ p [r] q cI):m_ p (L.take (k+1)) q cI:=by
 match L,k,c with
 | a::L,0,c=>
  simp only[qJ,dA] at c
  subst c;exact h rfl
 | [_],k+1,c=>simp at c
 | a::b::L,k+1,c=>exact a1
structure lv (p:ce) (L:List Int) (i:Nat × ce × gl):Prop where
 k:i.1≤L.length
 g:i.2.1.g=p.g
 wf:fN i.2.1
 most:i.2.1.most=p.most
 dec:i.2.1.dec=p.dec
 len:i.2.2.l.length≤i.1
 ok: ∀e∈i.2.2.l,mb e
 R:m_ p (L.take i.1) i.2.1 (i.2.2.l.map dT.abs)
theorem lv.zero {p:ce} {L:List Int} (a:fN p):lv p L (0,p,⟨none,0,[]⟩):=⟨bP _,rfl,a,rfl,rfl,by simp,by simp,by simp[m_]⟩
theorem BZ {kind r byte:Int} (a:0≤byte∧byte≤255):mb (eI kind r byte 0 [] [] false):=⟨BS,by simp[eI],by simp[eI],a,by dsimp only[eI];omega⟩
theorem lv.snoc {p:ce} {L:List Int} {k:Nat} {q:ce} {o:gl} {A:Option Addr} {c:Nat} {r kind r' byte:Int} (h:lv p L (k,q,o)) (a:L[k]? = some r) (i:0≤byte∧byte≤255)
 (j:0≤r→r<127→(⟨kind,r',byte,0,[],[],false⟩ :hc)=if r<32 then ⟨1,0,r,0,[],[],false⟩ else ⟨0,r,0,0,[],[],false⟩):lv p L (k+1,q,⟨A,c,o.l++[eI kind r' byte 0 [] [] false]⟩):=by
 have m:=(cK.1 a).1
 refine⟨m,h.g,h.wf,h.most,h.dec,?_,?_,?_⟩;have:=h.len;simp at this ⊢;omega
 intro e he;rcases cZ.1 he with he | he
 exact h.ok e he;simp only[eb] at he;subst he;exact BZ i
 refine m_.step a (λn=>?_);subst n;obtain⟨b,d,f⟩:=h.R;dsimp only at b d f ⊢
 intro s t;refine⟨b,d,?_⟩;rw[fQ,f,←j s t];rfl
theorem lv.same {p:ce} {L:List Int} {k:Nat} {q:ce} {o:gl} {r:Int} (h:lv p L (k,q,o)) (a:L[k]? = some r) (b:127≤r):lv p L (k+1,q,o):=
 ⟨(cK.1 a).1,h.g,h.wf,h.most,h.dec,Nat.le_succ_of_le h.len,h.ok,m_.step a (λ_ c d=>by omega)⟩
theorem lv.cat {p:ce} {L:List Int} {k:Nat} {q:ce} {o:gl} {A:Option Addr} {c:Nat} {r:Int} {R:ce→List hc→Prop} {z:ce × gl} (h:lv p L (k,q,o)) (b:L[k]? = some r) (f:127≤r) (a:tA q 1 R z) (ak:z.1.dec=q.dec):lv p L (k+1,z.1,⟨A,c,o.l++z.2.l⟩):=by
 refine⟨(cK.1 b).1,a.g.trans h.g,a.wf,a.most.trans h.most,ak.trans h.dec,?_,?_,m_.step b (λ_ i j=>by omega)⟩;have d:=h.len
 have m:=a.len
 simp at d ⊢
 omega
 intro e he;rcases cZ.1 he with he | he
 exact h.ok e he;exact a.ok e he
def TI (p:ce) (a:Option Addr × Nat × List Int) (w:World):Ending→World→Prop:=
 aP (λi:ce × gl=>i.2.val) (kO a::c_ p) (λi=>tz i.1 i.2) (tA p a.2.2.length (λq cI=>q.dec=p.dec∧m_ p a.2.2 q cI)) w
abbrev Is (a:Option Addr × Nat × List Int) (i:Nat × ce × gl):List Chunk:=[i.2.1.an,i.2.1.head.au,i.2.1.inter.au,i.2.1.text.au,kO a,i.2.2.au,i.2.2.b9]
theorem vG (w:World) (p:ce) (a:Option Addr × Nat × List Int) (u:a8 w (kO a::c_ p)) (v:fN p) (y:a.2.2.length≤2):
 Calls prog 112 [gt p.g,BN a].toArray w (TI p a w):=by
 obtain⟨A,c,L⟩:=a;dsimp only at y
 refine calls (n:=47) func112 rfl ntmps112 rfl ?_;refine cH (H':=af w (aB (kO (A,c,L)::c_ p)) (Is (A,c,L) (0,p,⟨none,0,[]⟩))) ?_ (Sub.refl _) (λx B=>(((u.start x B).eU 171 eV).BT [] av).ax (aA.cons (by exact oO) (aA.cons (by exact oO) (aA.cons (by exact oO) (aA.cons (by exact oO) (aA.cons (by exact p0) (aA.cons (by exact cw) (aA.cons (by exact bj) aA.nil))))))));refine eL ?_;refine b2 (ι:=Nat × ce × gl) (λi=>[(0,gt p.g),(5,i.2.2.val),(8,.slice A L.length c),(9,.int .i64 (L.length:Int)),(10,.int .i64 (i.1 :Int))]) (λi=>af w (aB (kO (A,c,L)::c_ p)) (Is (A,c,L) i)) (lv p L) (λi=>L.length - i.1) ?_ ?_;exact λw' C=>⟨(0,p,⟨none,0,[]⟩),lv.zero v,(ec rfl rfl rfl rfl rfl),C⟩
 rintro⟨k,q,o⟩ hi;have D:=hi.k
 have F:=hi.len
 have j:=hi.wf
 dsimp only at D F j ⊢
 rw[←hi.g];dsimp only;refine al ?_;refine aj (λG=>?_) (λG=>?_);obtain⟨r,b⟩ : ∃r,L[k]? = some r:=⟨L[k]'aa,bE _⟩;refine al ?_;refine jr (E:=kN) (by exact hM) oK rfl rfl rfl bc aa (λU H=>?_);refine a_ jC rfl rfl (λV I=>I.If (E:=kN) (by exact hM) H bv _ rfl) ?_;refine bp ?_;refine aj (λd=>?_) (λd=>?_);refine ah ?_;refine dn rfl rfl underlying21 underlying5 rfl ?_;refine ar ?_;refine dy (E:=eV) ⟨_,_,_,_,⟨_,_,_,0,0,[]⟩,_,_,_⟩ gW rfl rfl rfl rfl rfl (λW X Y=>?_);refine eC (E:=eV) gW rfl rfl rfl (by exact bj) (λ_ _=>(by exact sP)) b4 b4 (λZ Za=>?_);refine aJ ?_;exact bi (k+1,q,⟨_,_,o.l++[eI 1 0 (IntKind.u8.wrap r) 0 [] [] false]⟩) (hi.snoc b (Il _) (λs t=>by rw[aw d,nz aa aa])) (by show L.length - (k+1)<L.length - k;omega) (ec rfl rfl rfl rfl rfl) (λ_ h=>(af.vF (l:=o.l) (h.ax (l:=[o.b9,q.an,q.head.au,q.inter.au,q.text.au,kO (A,c,L),au 171 eV _ _ (o.l++[eI 1 0 (IntKind.u8.wrap r) 0 [] [] false])]) (aA.cons (by exact Ay) (aA.cons (by exact bj) (aA.cons (by exact bj) (aA.cons (by exact bj) (aA.cons (by exact bj) (aA.cons (by exact bj) (aA.cons (by exact bj) aA.nil)))))))) rfl).ax (aA.cons (by exact cw) (aA.cons (by exact cw) (aA.cons (by exact cw) (aA.cons (by exact cw) (aA.cons (by exact cw) (aA.cons (by exact cw) (aA.cons (by exact bj) aA.nil))))))));refine aC ?_;refine aj (λaH=>?_) (λaH=>?_);refine aK ?_;exact bi (k+1,q,o) (hi.same b aa) (by show L.length - (k+1)<L.length - k;omega) bR (λ_ h=>h.ax (aA.cons (by exact bj) (aA.cons (by exact bj) (aA.cons (by exact bj) (aA.cons (by exact bj) (aA.cons (by exact bj) (aA.cons (by exact bj) (aA.cons (by exact bj) aA.nil))))))));refine ay ?_;refine aW 34 rfl (λe=>?_) (λe=>?_);have J:=aX e
 refine aK ?_;refine aj (λK=>?_) (λK=>?_);refine aS ?_;refine dn rfl rfl underlying21 underlying5 rfl ?_;refine gS rfl rfl rfl rfl ?_;refine a6 (l0:=c_ q) (aA.cons (by exact bj) (aA.cons (by exact bj) (aA.cons (by exact bj) (aA.cons (by exact bj) aA.nil)))) rfl EQ rfl (λM N=>Ip M q (N.bo (aA.cons (by exact bj) (aA.cons (by exact bj) (aA.cons (by exact bj) (aA.cons (by exact bj) aA.nil))))) j _ (Il _)) (λz f=>?_);have Zb:=f.len
 refine eC (E:=eV) gW rfl rfl rfl (by exact nC) (λ_ _=>(by exact uU)) b4 aa (λZc Zd=>?_);refine aJ ?_;exact bi (k+1,z.1,⟨_,_,o.l++z.2.l⟩) (hi.cat b aa f f.R.1) (by show L.length - (k+1)<L.length - k;omega) (ec rfl rfl rfl rfl rfl) (λ_ h=>(af.BY (l:=o.l) (m:=z.2.l) (h.ax (l:=[o.b9,z.2.b9,z.1.an,z.1.head.au,z.1.inter.au,z.1.text.au,kO (A,c,L),au 171 eV _ _ (o.l++z.2.l)]) (aA.cons (by exact Az) (aA.cons (by exact nC) (aA.cons (by exact bj) (aA.cons (by exact bj) (aA.cons (by exact bj) (aA.cons (by exact bj) (aA.cons (by exact bj) (aA.cons (by exact bj) aA.nil)))))))))).ax (aA.cons (by exact cw) (aA.cons (by exact cw) (aA.cons (by exact cw) (aA.cons (by exact cw) (aA.cons (by exact cw) (aA.cons (by exact cw) (aA.cons (by exact bj) aA.nil))))))));refine aS ?_;refine dy (E:=eV) ⟨_,_,_,_,⟨_,_,_,0,0,[]⟩,_,_,_⟩ gW rfl rfl rfl rfl rfl (λO P Q=>?_);refine eC (E:=eV) gW rfl rfl rfl (by exact bj) (λ_ _=>(by exact sP)) b4 b4 (λZe Zf=>?_);refine aJ ?_;exact bi (k+1,q,⟨_,_,o.l++[eI 0 r 0 0 [] [] false]⟩) (hi.snoc b aZ (λs t=>by rw[ag d])) (by show L.length - (k+1)<L.length - k;omega) (ec rfl rfl rfl rfl rfl) (λ_ h=>(af.vF (l:=o.l) (h.ax (l:=[o.b9,q.an,q.head.au,q.inter.au,q.text.au,kO (A,c,L),au 171 eV _ _ (o.l++[eI 0 r 0 0 [] [] false])]) (aA.cons (by exact Ay) (aA.cons (by exact bj) (aA.cons (by exact bj) (aA.cons (by exact bj) (aA.cons (by exact bj) (aA.cons (by exact bj) (aA.cons (by exact bj) aA.nil)))))))) rfl).ax (aA.cons (by exact cw) (aA.cons (by exact cw) (aA.cons (by exact cw) (aA.cons (by exact cw) (aA.cons (by exact cw) (aA.cons (by exact cw) (aA.cons (by exact bj) aA.nil))))))));have J:=bd e
 refine bp ?_;refine dy (E:=eV) ⟨_,_,_,_,⟨_,_,_,0,0,[]⟩,_,_,_⟩ gW rfl rfl rfl rfl rfl (λO P Q=>?_);refine eC (E:=eV) gW rfl rfl rfl (by exact bj) (λ_ _=>(by exact sP)) b4 b4 (λZg Zh=>?_);refine aJ ?_;exact bi (k+1,q,⟨_,_,o.l++[eI 0 r 0 0 [] [] false]⟩) (hi.snoc b aZ (λs t=>by rw[ag d])) (by show L.length - (k+1)<L.length - k;omega) (ec rfl rfl rfl rfl rfl) (λ_ h=>(af.vF (l:=o.l) (h.ax (l:=[o.b9,q.an,q.head.au,q.inter.au,q.text.au,kO (A,c,L),au 171 eV _ _ (o.l++[eI 0 r 0 0 [] [] false])]) (aA.cons (by exact Ay) (aA.cons (by exact bj) (aA.cons (by exact bj) (aA.cons (by exact bj) (aA.cons (by exact bj) (aA.cons (by exact bj) (aA.cons (by exact bj) aA.nil)))))))) rfl).ax (aA.cons (by exact cw) (aA.cons (by exact cw) (aA.cons (by exact cw) (aA.cons (by exact cw) (aA.cons (by exact cw) (aA.cons (by exact cw) (aA.cons (by exact bj) aA.nil))))))));refine bH ?_;intro Zi S;have T:k=L.length:=by omega
 subst T;exact aP.bQ (q,o) ⟨hi.g,hi.wf,hi.most,hi.len,hi.ok,hi.dec,by have:=hi.R;rwa [ow] at this⟩ rfl (S.ax (aA.cons (by exact bj) (aA.cons (by exact bj) (aA.cons (by exact bj) (aA.cons (by exact bj) (aA.cons (by exact cw) (aA.cons (by exact cw) aA.nil)))))))
end
theorem TJ {h:ga} {st most:Int} {c:UInt8} (a:127≤(c.toNat:Int)):jt h st most c=none:=by
 unfold jt;rw[ag (show ¬(c.toNat:Int)=27 by omega),aw (show (c.toNat:Int)=24∨(c.toNat:Int)=26∨127≤(c.toNat:Int) by omega),ag (show ¬((c.toNat:Int)=93∧h.inter.length=0∧h.ke=false) by omega),ag (show ¬(c.toNat:Int)=7 by omega),ag (show ¬(32≤(c.toNat:Int)∧(c.toNat:Int)<127∧(h.text.length:Int)<most) by omega)];simp
theorem iu.none {p q:ce} {c:UInt8} {cI:List hc} (ak:m9 q.dec) (h:jt p.h p.state p.most c=none):iu p c q cI:=⟨ak,λ_ _ r a=>by rw[h] at a;cases a⟩
theorem yp {h:ga} {most:Int} {c:UInt8} {r: (ga × Int) × List hc} (e:jt h 1 most c=some r): (c.toNat:Int)=93∧h.inter.length=0∧h.ke=false∧r=((nY,4),[]):=by
 unfold jt at e
 rw[ag aZ,aw rfl] at e
 split at e
 rename_i a;exact⟨a.1,a.2.1,a.2.2,by simpa using e.symm⟩;cases e
theorem tC {h:ga} {st most:Int} {c:UInt8} (a:st≠0) (b:st≠1) (d:st≠4):jt h st most c=none:=by
 unfold jt;rw[ag a,ag b,ag d]
theorem iu.st {p q:ce} {c:UInt8} {cI:List hc} (ak:m9 q.dec) (d:p.state≠0) (e:p.state≠4) (f: (c.toNat:Int)≠93):iu p c q cI:=by
 refine⟨ak,λ_ _ r a=>?_⟩;by_cases b:p.state=1
 rw[b] at a;exact absurd (yp a).1 f
 rw[tC d b e] at a;cases a
theorem vH {p:ce} {d:nZ} (h:fN p) (ak:m9 d):fN (hx p d):=⟨h.head,h.inter,h.text,h.most,ak,h.ak⟩
theorem It (w:World) (p:ce) (F:a8 w (c_ p)) (d:fN p) (c:UInt8) (j:p.state≠4) (k:p.state≠0):
 Calls prog 118 [gt p.g,.int .u8 (c.toNat:Int)].toArray w (dz p 2 (iu p c) w):=by
 refine bI func118 ntmps118 F ?_;refine b7 ?_;refine aj (λG=>?_) (λG=>?_);refine ah ?_;refine a6 (l0:=c_ p) ae rfl hJ rfl (λe f=>h_ e p (f.bo ae) d _) (λz m=>?_);refine ah ?_;have H:=m.wf.dec
 rw[←m.g];refine al ?_;refine cJ (λe f=>Ik e z f H c) (λx q=>?_);refine cJ (λe f=>vG e (hx z x.1) x.2 f (vH m.wf q.1) q.2.1) (λy l=>?_);refine aC ?_;intro i a;exact aN y ⟨l.g.trans m.g,l.wf,l.most.trans m.most,fp l.len q.2.1,l.ok,iu.none l.wf.dec (TJ aa)⟩ a;refine ay ?_;refine aW 20 rfl (λaH=>?_) (λaH=>?_);have I:=aX aH
 refine oP ?_;intro i a;exact dz.n rfl d rfl (iu.st d.dec k j aa) a ae;have I:=bd aH
 refine al ?_;refine aW 23 rfl (λs=>?_) (λs=>?_);have J:=aX s
 refine dB ?_;refine aj (λK=>?_) (λK=>?_);refine aJ ?_;intro i a;exact dz.n rfl d rfl (iu.st d.dec k j aa) a ae;refine aC ?_;refine aj (λL=>?_) (λL=>?_);refine aS ?_;refine dy (E:=eV) ⟨_,_,_,_,⟨_,_,_,0,0,[]⟩,_,_,_⟩ gW rfl rfl rfl rfl rfl (λM N O=>?_);refine aC ?_;intro i a;exact dz.z (es:=[eI 1 0 c.toNat 0 [] [] false]) rfl d rfl (by simpa using ⟨rfl,by simp[eI],by simp[eI],qn c,by dsimp only[eI];omega⟩) av (iu.st d.dec k j aa) a ae;refine aQ ?_;refine aj (λP=>?_) (λP=>?_);refine aS ?_;refine cJ (λe f=>Iq e p f d c) (λu b=>?_);refine aC ?_;intro i a;exact aN u ⟨b.g,b.wf,b.most,by have:=b.len;omega,b.ok,⟨b.wf.dec,λ_ _ r o=>by rw[show p.state=1 by assumption] at o;obtain⟨t,A,B,rfl⟩:=yp o;obtain⟨C,D,hU⟩:=b.R.2 A B t;exact⟨b.R.1,C,D,hU⟩⟩⟩ a;refine aC ?_;refine cJ (λe f=>Ir e p f d c) (λv h=>?_);refine ay ?_;intro i a;exact aN v ⟨h.g,h.wf,h.most,by have:=h.len;omega,h.ok,iu.none h.wf.dec (tC k bv j)⟩ a;have J:=bd s
 refine eL ?_;refine aj (λQ=>?_) (λQ=>?_);refine aS ?_;refine dy (E:=eV) ⟨_,_,_,_,⟨_,_,_,0,0,[]⟩,_,_,_⟩ gW rfl rfl rfl rfl rfl (λM N O=>?_);refine aC ?_;intro i a;exact dz.z (es:=[eI 1 0 c.toNat 0 [] [] false]) rfl d rfl (by simpa using ⟨rfl,by simp[eI],by simp[eI],qn c,by dsimp only[eI];omega⟩) av (iu.st d.dec k j aa) a ae;refine aQ ?_;refine aj (λS=>?_) (λS=>?_);refine aS ?_;refine cJ (λe f=>Iq e p f d c) (λu b=>?_);refine aC ?_;intro i a;exact aN u ⟨b.g,b.wf,b.most,by have:=b.len;omega,b.ok,⟨b.wf.dec,λ_ _ r o=>by rw[show p.state=1 by assumption] at o;obtain⟨t,A,B,rfl⟩:=yp o;obtain⟨C,D,hU⟩:=b.R.2 A B t;exact⟨b.R.1,C,D,hU⟩⟩⟩ a;refine aC ?_;refine cJ (λe f=>Ir e p f d c) (λv h=>?_);refine ay ?_;intro i a;exact aN v ⟨h.g,h.wf,h.most,by have:=h.len;omega,h.ok,iu.none h.wf.dec (tC k bv j)⟩ a
theorem Iu {h:ga} {most:Int} {c:UInt8} {r: (ga × Int) × List hc} (e:jt h 0 most c=some r):
 ((c.toNat:Int)=27∧r=((nY,1),[]))∨((c.toNat:Int)≠27∧(c.toNat:Int)≠24∧(c.toNat:Int)≠26∧(c.toNat:Int)<127∧r=((h,0),[if (c.toNat:Int)<32 then ⟨1,0,c.toNat,0,[],[],false⟩ else ⟨0,c.toNat,0,0,[],[],false⟩])):=by
 unfold jt at e
 rw[aw rfl] at e
 split at e
 exact .inl ⟨bv,by simpa using e.symm⟩;split at e
 cases e
 rename_i b d;split at e
 rename_i a;exact .inr ⟨b,aa,aa,aa,by rw[aw a];simpa using e.symm⟩;rename_i a;exact .inr ⟨b,aa,aa,aa,by rw[ag a];simpa using e.symm⟩
theorem Iv {h:ga} {st most:Int} {c:UInt8} (a: (c.toNat:Int)=24∨(c.toNat:Int)=26):jt h st most c=none:=by
 unfold jt;rw[ag (show ¬(c.toNat:Int)=27 by omega),aw (show (c.toNat:Int)=24∨(c.toNat:Int)=26∨127≤(c.toNat:Int) by omega),ag (show ¬((c.toNat:Int)=93∧h.inter.length=0∧h.ke=false) by omega),ag (show ¬(c.toNat:Int)=7 by omega),ag (show ¬(32≤(c.toNat:Int)∧(c.toNat:Int)<127∧(h.text.length:Int)<most) by omega)];simp
theorem TK {h:ga} {st most:Int} {c:UInt8} {r: (ga × Int) × List hc} (f: (c.toNat:Int)=27) (e:jt h st most c=some r):st=0:=by
 apply Classical.byContradiction
 intro d;by_cases a:st=1
 subst a;have:=(yp e).1
 omega
 by_cases b:st=4
 subst b;rcases pg e with ⟨h,_⟩ | ⟨_,h,_⟩ <;> omega
 rw[tC d a b] at e;cases e
theorem B0 {l m:List dT} (h: ∀e∈l,mb e) (k: ∀e∈m,mb e): ∀e∈l++m,mb e:=λe he=>by
 rcases cZ.1 he with he | he
 exact h e he;exact k e he
theorem TL {p z:ce} {c:UInt8} {x:nZ × Option Addr × Nat × List Int} {y u:ce × gl} (d: (c.toNat:Int)=27)
 (g:m9 x.1∧x.2.2.2.length≤1∧x.1.js≤p.dec.js∧(p.dec.ma=0→x.1=p.dec∧x.2.2.2=[]))
 (i:tA (hx p x.1) x.2.2.2.length (λq cI=>q.dec=(hx p x.1).dec∧m_ (hx p x.1) x.2.2.2 q cI) y)
 (j:tA y.1 1 (λq cI=>q=y.1∧(y.1.state=4→cI=[⟨4,0,0,0,[],y.1.text.l,y.1.cut⟩])∧(y.1.state≠4→y.1.state≠3→cI=[])) u)
 (a:Pa u.1 nY 1 z):iu p c z ((y.2.l++u.2.l).map dT.abs):=by
 refine⟨a.wf.dec,λA k r b=>?_⟩;have e:=TK d b
 rw[e] at b
 rcases Iu b with ⟨_,rfl⟩ | ⟨h,_⟩
 obtain⟨m,n⟩:=g.2.2.2 k;obtain⟨o,f⟩:=i.R;rw[n] at f
 obtain⟨B,s,t⟩:=f;obtain⟨v,C,w⟩:=j.R;have D:y.1.state=0:=s.trans e
 refine⟨?_,a.h,a.st,?_⟩;rw[a.dec,v,o,m];rw[fQ,t,w aa aa];rfl
 exact absurd d h
theorem TM {p:ce} {c:UInt8} {x:nZ × Option Addr × Nat × List Int} {y:ce × gl} (a:p.state=0) (f: (c.toNat:Int)≠27) (g:Ii 2 p.dec c x)
 (b:tA (hx p x.1) x.2.2.2.length (λq cI=>q.dec=(hx p x.1).dec∧m_ (hx p x.1) x.2.2.2 q cI) y):iu p c y.1 (y.2.l.map dT.abs):=by
 refine⟨b.wf.dec,λi t r d=>?_⟩;rw[a] at d
 rcases Iu d with ⟨h,_⟩ | ⟨_,_,_,u,rfl⟩
 exact absurd h f;obtain⟨j,k⟩:=g.2.2 i aa;obtain⟨m,e⟩:=b.R;rw[k] at e
 obtain⟨n,o,s⟩:=e aa aa;exact⟨by rw[m,j],n,o.trans a,s⟩
theorem TN (w:World) (p:ce) (H:a8 w (c_ p)) (j:fN p) (c:UInt8):
 Calls prog 71 [gt p.g,.int .u8 (c.toNat:Int)].toArray w (dz p 2 (iu p c) w):=by
 have o:=j.dec
 refine bI func71 ntmps71 H ?_;refine xr ?_;refine aj (λq=>?_) (λq=>?_);have C:=q
 refine aq ?_;refine eE rfl ((bX C)) ?_;refine al ?_;refine cJ (λa b=>BP a p b o) (λx f=>?_);refine a6 (l0:=kO x.2::c_ (hx p x.1)) ae rfl zV rfl (λa b=>vG a (hx p x.1) x.2 (b.bo ae) (vH j f.1) (by have:=f.2.1;omega)) (λy e=>?_);refine aS ?_;rw[show gt p.g=gt y.1.g by rw[e.g]];refine aq ?_;refine a6 (l0:=c_ y.1) ae rfl hJ rfl (λa b=>h_ a y.1 (b.bo ae) e.wf _) (λz i=>?_);refine aC ?_;refine dy (E:=eV) ⟨_,_,_,_,⟨_,_,_,0,0,[]⟩,_,_,_⟩ gW rfl rfl rfl rfl rfl (λI J K=>?_);have D:=fp e.len f.2.1
 refine eC (E:=eV) gW rfl rfl rfl bj (λ_ _=>jk) b4 b4 (λS T=>?_);refine aC ?_;intro k h
 (refine aP.bQ (z,⟨_,_,y.2.l++[eI 1 0 c.toNat 0 [] [] false]⟩) ?_ rfl ((af.vF (l:=y.2.l) (h.ax (l:=[y.2.b9,z.an,z.head.au,z.inter.au,z.text.au,au 171 eV _ _ (y.2.l++[eI 1 0 c.toNat 0 [] [] false])]) ae) rfl).ax ae);exact⟨i.g.trans e.g,i.wf,i.most.trans e.most,by simp;omega,B0 e.ok (by simpa using BZ (qn c)),iu.none i.wf.dec (Iv aa)⟩)
 have C:=q
 refine ay ?_;refine aj (λaH=>?_) (λaH=>?_);refine al ?_;refine cJ (λa b=>BP a p b o) (λx f=>?_);refine a6 (l0:=kO x.2::c_ (hx p x.1)) ae rfl zV rfl (λa b=>vG a (hx p x.1) x.2 (b.bo ae) (vH j f.1) (by have:=f.2.1;omega)) (λy e=>?_);refine aS ?_;rw[show gt p.g=gt y.1.g by rw[e.g]];refine aq ?_;refine a6 (l0:=c_ y.1) ae rfl hJ rfl (λa b=>h_ a y.1 (b.bo ae) e.wf _) (λz i=>?_);refine aC ?_;refine dy (E:=eV) ⟨_,_,_,_,⟨_,_,_,0,0,[]⟩,_,_,_⟩ gW rfl rfl rfl rfl rfl (λI J K=>?_);have D:=fp e.len f.2.1
 refine eC (E:=eV) gW rfl rfl rfl bj (λ_ _=>jk) b4 b4 (λU V=>?_);refine aC ?_;intro k h
 (refine aP.bQ (z,⟨_,_,y.2.l++[eI 1 0 c.toNat 0 [] [] false]⟩) ?_ rfl ((af.vF (l:=y.2.l) (h.ax (l:=[y.2.b9,z.an,z.head.au,z.inter.au,z.text.au,au 171 eV _ _ (y.2.l++[eI 1 0 c.toNat 0 [] [] false])]) ae) rfl).ax ae);exact⟨i.g.trans e.g,i.wf,i.most.trans e.most,by simp;omega,B0 e.ok (by simpa using BZ (qn c)),iu.none i.wf.dec (Iv aa)⟩)
 refine al ?_;refine aj (λL=>?_) (λL=>?_);refine al ?_;refine cJ (λa b=>BP a p b o) (λx f=>?_);refine a6 (l0:=kO x.2::c_ (hx p x.1)) ae rfl zV rfl (λa b=>vG a (hx p x.1) x.2 (b.bo ae) (vH j f.1) (by have:=f.2.1;omega)) (λy e=>?_);rw[show gt p.g=gt y.1.g by rw[e.g]];refine ar ?_;refine cJ (λa b=>BW a y.1 b e.wf) (λu d=>?_);have D:=fp e.len f.2.1
 have W:=d.len
 refine eC (E:=eV) gW rfl rfl rfl nC (λ_ _=>sP) b4 aa (λX Y=>?_);refine aS ?_;rw[show gt y.1.g=gt u.1.g by rw[d.g]];refine aq ?_;refine a6 (l0:=c_ u.1) ae rfl hJ rfl (λa b=>h_ a u.1 (b.bo ae) d.wf _) (λz i=>?_);refine bx ?_;intro k h
 (refine aP.bQ (z,⟨_,_,y.2.l++u.2.l⟩) ?_ rfl ((af.BY (l:=y.2.l) (m:=u.2.l) (h.ax (l:=[y.2.b9,u.2.b9,z.an,z.head.au,z.inter.au,z.text.au,au 171 eV _ _ (y.2.l++u.2.l)]) ae)).ax ae);exact⟨i.g.trans (d.g.trans e.g),i.wf,i.most.trans (d.most.trans e.most),by simp;omega,B0 e.ok d.ok,TL aa f e d i⟩)
 refine cF ?_;refine aj (λM=>?_) (λM=>?_);refine aC ?_;refine cJ (λa b=>Ik a p b o c) (λx f=>?_);refine cJ (λa b=>vG a (hx p x.1) x.2 b (vH j f.1) f.2.1) (λy e=>?_);refine aC ?_;intro k h;exact aN y ⟨e.g,e.wf,e.most,fp e.len f.2.1,e.ok,TM bv bv f e⟩ h;refine aK ?_;refine aW 59 rfl (λs=>?_) (λs=>?_);have N:=aX s
 refine xr ?_;refine cJ (λa b=>BX a p b j c) (λu d=>?_);refine aC ?_;intro k h;exact aN u ⟨d.g,d.wf,d.most,by have:=d.len;omega,d.ok,⟨d.wf.dec,λF G r n=>by exact⟨d.R.1,d.R.2 r bv n⟩⟩⟩ h;have N:=bd s
 refine bx ?_;refine aW 66 rfl (λt=>?_) (λt=>?_);have O:=aX t
 refine kA ?_;refine cJ (λa b=>BX a p b j c) (λu d=>?_);refine aC ?_;intro k h;exact aN u ⟨d.g,d.wf,d.most,by have:=d.len;omega,d.ok,⟨d.wf.dec,λF G r n=>by (rw[tC aa aa aa] at n;cases n)⟩⟩ h;have O:=bd t
 refine bx ?_;refine aW 72 rfl (λA=>?_) (λA=>?_);have P:=aX A
 refine eR ?_;refine aj (λQ=>?_) (λQ=>?_);refine aS ?_;refine cJ (λa b=>BX a p b j c) (λu d=>?_);refine aC ?_;intro k h;exact aN u ⟨d.g,d.wf,d.most,by have:=d.len;omega,d.ok,⟨d.wf.dec,λF G r n=>by (rw[tC aa aa aa] at n;cases n)⟩⟩ h;refine aC ?_;refine a6 (l0:=c_ p) ae rfl EL rfl (λa b=>It a p (b.bo ae) j c aa aa) (λv B=>?_);refine ay ?_;intro k h;exact aN v B h;have P:=bd A
 refine hq ?_;refine a6 (l0:=c_ p) ae rfl EL rfl (λa b=>It a p (b.bo ae) j c aa aa) (λv B=>?_);refine ay ?_;intro k h;exact aN v B h
structure ph (s:bl) (w:World):Prop where
 hC: ∃t:bl,t.g=s.g∧t.bg=s.bg∧t.y=s.y∧t.an.pred w
theorem ph.of {s:bl} {b w:World} {S:List Nat} {cs:List Chunk} (t:bl) (a:t.g=s.g) (c:t.bg=s.bg) (d:t.y=s.y) (h:af b S cs w) (e:Has cs t.an):ph s w:=⟨⟨t,a,c,d,h.has e⟩⟩
theorem B1 {w:World} {g o:Nat} {xs:List Value} {t:TypeId} {v:Value} (h: (aD g xs t).pred w) (a:xs[o]? = some v):w.cell? ⟨g,o,none⟩=some v:=by
 have b:w.heap[g]? = some (.cells xs.toArray t (0,0)):=h
 rw[cell_of_row w g o xs.toArray t (0,0) b];simpa using a
theorem ph.y {s:bl} {w:World} (h:ph s w):w.cell? ⟨s.g,0+16,none⟩=some (.int .i64 s.y):=by
 obtain⟨t,a,d,b,c⟩:=h.hC;rw[←a,←b];exact B1 c rfl
theorem ph.bg {s:bl} {w:World} (h:ph s w) (j:Nat) (u:Value) (a: (s.bg.enc)[j]? = some u):w.cell? ((⟨s.g,0+0,none⟩ :Addr).add j)=some u:=by
 obtain⟨t,b,c,i,d⟩:=h.hC;rw[←b,Addr.add_lit];rw[←c] at a
 refine B1 d ?_;have e:eZ t=t.bg.enc++(eZ t).drop 14:=rfl
 have f:=(cK.1 a).1
 rw[e,mA (by simpa using f)];simpa using a
theorem TO (w:World) (s:bl) (i:a8 w (aO s)) (b:dR s) (k:dX s.abs):
 Calls prog 220 [ptr s.g].toArray w (eo s (.tuple #[]) (HV s.abs) w):=by
 obtain⟨q,l,t,v,z⟩:=k.nums;refine bI func220 ntmps220 i ?_;refine aC ?_;refine eF [0,1,2,3,4,5,6,7,8,9,10] 3 [[(11,false,[12,13,14]),(15,false,[16,17]),(18,true,[])]] (_) mixed ab (λ_ c=>c.drew) (λ_ h=>ph.of s rfl rfl rfl h aT) ?_;refine ay ?_;refine aL rfl (λe a=>(cx (vs:=s.bg.enc) q4 rfl rfl rfl (λm d j u o=>by subst d;exact a.bg j u o) aG)) ?_;refine ah ?_;refine aL rfl (λe a=>(a_ bN rfl rfl (λm d=>by subst d;exact a.y) aG)) ?_;refine ah ?_;refine ao rfl jg rfl (λp f=>jq p s (f.has aT) (f.has bJ) l) ?_;refine b3 (λ_=>True) (λ_ h=> .inr (ph.of s rfl rfl rfl h Has.head)) (λ_ h=>a1) ?_;refine aL rfl (λe a=>(ks (out:=[.int .i64 s.bg.at_.di,.int .i64 s.bg.at_.fn,.int .i64 s.bg.at_.an,.int .i64 s.bg.at_.aM,.int .i64 s.bg.at_.fl,.int .i64 s.bg.aF.fC,.int .i64 s.bg.aF.s1,.int .i64 s.bg.aF.s2,.int .i64 s.bg.aF.lp,.int .i64 s.bg.aF.use,.int .i64 s.bg.aF.j7,.bool s.bg.put,.bool s.bg.wrap,.bool s.bg.home,.int .i64 s.y,.int .i64 (min s.x (s.ap.cols - 1))]) zD rfl rfl (by simp[hF,putAt,df,Value.cells]) aG)) ?_;refine aS ?_;refine e3 uH rfl rfl (by rw[HW];exact bn.head) rfl (aI.cons rfl (aI.cons rfl (aI.cons rfl (aI.cons rfl (aI.cons rfl (aI.cons rfl (gg rfl rfl rfl rfl rfl rfl rfl rfl rfl rfl))))))) (by exact dV rfl) ?_;refine b3 (λ_=>True) (λ_ h=> .inr ⟨.inr (ph.of { s with f_:=s.bg,kG:=s.y,kH:=min s.x (s.ap.cols - 1) } rfl rfl rfl h Has.head),dp⟩) (λ_ h=>a1) ?_;refine aJ ?_;intro A c;exact fb { s with f_:=s.bg,kG:=s.y,kH:=min s.x (s.ap.cols - 1),has:=true } ⟨rfl,rfl,rfl⟩ ⟨b.r,b.st,b.n⟩ rfl rfl c ae
abbrev tD (s:bl):List Value:=[.int .i64 s.y,.int .i64 s.x,.int .i64 s.bg.at_.di,.int .i64 s.bg.at_.fn,.int .i64 s.bg.at_.an,.int .i64 s.bg.at_.aM,.int .i64 s.bg.at_.fl,.int .i64 s.bg.aF.fC,.int .i64 s.bg.aF.s1,.int .i64 s.bg.aF.s2,.int .i64 s.bg.aF.lp,.int .i64 s.bg.aF.use,.int .i64 s.bg.aF.j7,.bool s.bg.put,.bool s.bg.wrap,.bool s.bg.home,.int .i64 s.top,.int .i64 s.cR,.bool s.has]
theorem B2 (a b c d e f g h i j k l m n o p q r t:Value) (s:bl):df [a,b,c,d,e,f,g,h,i,j,k,l,m,n,o,p,q,r,t] 0 (tD s)=tD s:=by
 simp only[df,tD,dE,Nat.reduceAdd,qM,mE]
set_option maxHeartbeats 1000000 in
theorem ju (w:World) (s:bl) (c:s.an.pred w):Calls prog 135 [ptr s.g].toArray w (Pure (.agg (tD s).toArray) w):=by
 refine aV func135 ntmps135 ?_;refine ah ?_;intro i k l;refine bH ?_;refine bF [0,1,2,3,4,5,6,7,8,9,10,11,12,13,14,15,16,17,18,19,20,21,22,23,24,25,26,27,28,29,30,31,32,33,34,35,36] 1 [[(37,true,[])]] ?_;refine ah ?_;refine aL rfl (λd a=>(a_ bN rfl rfl (λe b=>by subst b;exact a.bU c (by (simp;done)) rfl) aG)) ?_;refine ah ?_;refine aL rfl (λd a=>(a_ bN rfl rfl (λe b=>by subst b;exact a.bU c (by (simp;done)) rfl) aG)) ?_;refine ay ?_;refine aL rfl (λd a=>(cx (vs:=[.int .i64 s.bg.at_.di,.int .i64 s.bg.at_.fn,.int .i64 s.bg.at_.an,.int .i64 s.bg.at_.aM,.int .i64 s.bg.at_.fl]) sw rfl rfl rfl (λe b j u f=>by subst b;exact a.jJ (sz:=5) (o:=0) (xs:=eZ s) c av rfl j u f) aG)) ?_;refine aS ?_;refine aL rfl (λd a=>(cx (vs:=s.bg.aF.enc) lR rfl rfl rfl (λe b j u f=>by subst b;exact a.jJ (sz:=6) (o:=5) (xs:=eZ s) c av rfl j u f) aG)) ?_;refine aS ?_;refine aL rfl (λd a=>(cx (vs:=[.bool s.bg.put,.bool s.bg.wrap,.bool s.bg.home]) Ee rfl rfl rfl (λe b j u f=>by subst b;exact a.jJ (sz:=3) (o:=11) (xs:=eZ s) c av rfl j u f) aG)) ?_;refine ah ?_;refine aL rfl (λd a=>(a_ bN rfl rfl (λe b=>by subst b;exact a.bU c (by (simp;done)) rfl) aG)) ?_;refine ah ?_;refine aL rfl (λd a=>(a_ bN rfl rfl (λe b=>by subst b;exact a.bU c (by (simp;done)) rfl) aG)) ?_;refine ah ?_;refine aL rfl (λd a=>(a_ oI rfl rfl (λe b=>by subst b;exact a.bU c (by (simp;done)) rfl) aG)) ?_;refine aL rfl (λd a=>(ks (out:=tD s) MD rfl rfl (by simp[hF,putAt,df,Value.cells,gH.enc,fZ.enc]) aG)) ?_;refine aq ?_;refine e3 zH rfl rfl (by rw[B2];exact bn.head) rfl (aI.cons rfl (aI.cons rfl (aI.cons rfl (aI.cons rfl (aI.cons rfl (aI.cons rfl (aI.cons rfl (aI.cons rfl (aI.cons rfl (gg rfl rfl rfl rfl rfl rfl rfl rfl rfl rfl)))))))))) (by exact dV rfl) ?_;refine al ?_;intro m h;exact⟨rfl,h.ext⟩
structure gm (k:Nat) (s z:bl):Prop where
 g:z.g=s.g
 ap:z.ap.g=s.ap.g
 st:z.st.g=s.st.g
 wf:dR z
 kept:cS k s.abs z.abs
theorem gm.refl {s:bl} (h:dR s):gm 0 s s:=⟨rfl,rfl,rfl,h,cS.refl _⟩
theorem gm.trans {a b:Nat} {s z u:bl} (h:gm a s z) (k:gm b z u):gm (a+b) s u:=⟨k.g.trans h.g,k.ap.trans h.ap,k.st.trans h.st,k.wf,h.kept.trans k.kept⟩
theorem gm.mono {a b:Nat} {s z:bl} (h:gm a s z) (c:a≤b):gm b s z:=⟨h.g,h.ap,h.st,h.wf,h.kept.mono c⟩
theorem hX.hd {s z:bl} {q:be} {k:Nat} (h:hX s q z) (a:cS k s.abs q):gm k s z:=⟨h.g,h.ap,h.st,h.wf,h.abs▸a⟩
theorem gm.fits {k:Nat} {s z:bl} (h:gm k s z) (a:dX s.abs):dX z.abs∧z.ap.bf.l.length≤s.ap.bf.l.length+k:=⟨h.kept.wf a,h.kept.bf⟩
def dY (k:Nat) (s:bl) (v:Value) (w:World):Ending→World→Prop:=aP (λ_:bl=>v) (aO s) aO (gm k s) w
theorem Iw {s:bl} {k:Nat} {i:bq} {q:b0} (b:dR s) (hi:i.g=s.ap.g∧cX i.r∧i.abs=q) (c:Kept k s.ap.abs q):gm k s { s with ap:=i }:=by
 refine⟨rfl,hi.1,rfl,⟨hi.2.1,b.st,?_⟩,?_⟩;have a:=c.cols
 rw[←hi.2.2] at a
 have d:i.cols=s.ap.cols:=a
 rw[b.n,←d];have a: ({ s with ap:=i }:bl).abs= { s.abs with bD:=q }:=by simp only[bl.abs,hi.2.2]
 rw[a];exact hY s.abs (f:=λ_=>q) c
theorem TP (w:World) (s:bl) (E:a8 w (aO s)) (F:dR s) (o:dX s.abs):
 Calls prog 174 [ptr s.g].toArray w (dY 0 s (.tuple #[]) w):=by
 refine bI func174 ntmps174 E ?_;refine bH ?_;refine cJ (λb a=>vo b s a F o.bD) (λz k=>?_);refine aS ?_;have p:=k.hd (HQ s.abs)
 obtain⟨v,c8⟩:=p.fits o;obtain⟨Q,R,S,y,T⟩:=v.nums;rw[←k.g];refine aq ?_;refine ao rfl nu rfl (λb a=>nS b z z.ap rfl (a.has aT) (a.has bJ)) ?_;refine aS ?_;refine b2 (ι:=Nat × bl) (λi=>[(0,ptr z.g),(9,.int .i64 (z.ap.s.l.length:Int)),(10,.int .i64 (i.1 :Int))]) (λi=>af w (aB (aO s)) (aO i.2)) (λi=>i.1≤z.ap.s.l.length∧gm 0 z i.2) (λi=>z.ap.s.l.length - i.1) ?_ ?_;exact λw' n=>⟨(0,z),⟨bP _,gm.refl k.wf⟩,(em rfl rfl rfl),n.ax ae⟩
 rintro⟨i,q⟩ ⟨hi,d⟩;dsimp only at hi d ⊢
 obtain⟨f,U⟩:=d.fits v;obtain⟨V,W,X,Y,Z⟩:=f.nums;rw[←d.g];refine al ?_;refine aj (λG=>?_) (λG=>?_);refine bp ?_;refine bF [0,1,2,3,4,5,7] 2 [[(6,false,[]),(8,true,[])]] ?_;refine aJ ?_;refine ao rfl jE rfl (λb a=>j9 b q q.ap rfl (a.has aT) (a.has bJ)) ?_;refine ah ?_;refine a6 (l0:=bB q.ap) ae rfl uN rfl (λb a=>vj b q.ap (a.bo ae) d.wf.r f.bD (i:Int) 0 q.ap.cols 0 0 aa) (λH A=>?_);refine ay ?_;have j:=Iw d.wf A (o2 q.ap.abs _ _ _ _ _)
 have B:=tg (t:=q) A.1
 generalize Za: ({ q with ap:=H }:bl)=c at j B
 refine cH (H':=af w (aB (aO s)) (aO c)) ?_ (Sub.refl _) (λx y=>by rw[B];exact y.ax ae);obtain⟨I,Zb⟩:=j.fits f;obtain⟨Zc,Zd,Ze,Zf,Zg⟩:=I.nums;rw[←j.g];refine aq ?_;refine ao rfl jE rfl (λb a=>j9 b c c.ap rfl (a.has aT) (a.has bJ)) ?_;refine aS ?_;refine b2 (ι:=Nat × bl) (λm=>[(0,ptr c.g),(2,.int .i64 (i:Int)),(9,.int .i64 (z.ap.s.l.length:Int)),(10,.int .i64 (i:Int)),(23,.int .i64 c.ap.cols),(24,.int .i64 (m.1 :Int))]) (λm=>af w (aB (aO s)) (aO m.2)) (λm=>m.1≤c.ap.cols.toNat∧gm 0 q m.2) (λm=>c.ap.cols.toNat - m.1) ?_ ?_;exact λw' n=>⟨(0,c),⟨bP _,j⟩,(ip rfl rfl rfl rfl rfl rfl),n⟩
 rintro⟨m,u⟩ ⟨J,e⟩;dsimp only at J e ⊢
 obtain⟨C,Zh⟩:=e.fits f;obtain⟨Zi,Zj,Zk,Zl,Zm⟩:=C.nums;rw[j.g,←e.g];refine al ?_;refine aj (λK=>?_) (λK=>?_);refine eR ?_;refine cJ (λb a=>GV b u.ap a e.wf.r C.bD (i:Int) (m:Int) 69 ⟨0,0,0,0,0⟩) (λL D=>?_);refine aC ?_;have M:=Iw e.wf D (vh u.ap.abs _ _ _ _)
 exact bi (m+1,{ u with ap:=L }) ⟨by show m+1≤_;omega,(e.trans M).mono aa⟩ (by show c.ap.cols.toNat - (m+1)<c.ap.cols.toNat - m;omega) (ip rfl rfl rfl rfl rfl rfl) (λ_ h=>by rw[tg D.1];exact h.ax ae);refine aQ ?_;exact bi (i+1,u) ⟨by show i+1≤_;omega,(d.trans e).mono aa⟩ (by show z.ap.s.l.length - (i+1)<z.ap.s.l.length - i;omega) (em rfl rfl rfl) (λ_ h=>h.ax ae);refine aC ?_;refine cJ (λb a=>x8 b q a d.wf f.bD 0 0) (λN O=>?_);refine aq ?_;intro Zn P;exact aN N (((p.trans d).trans (O.hd (x7 _ _ _))).mono aa) P
end Go.Proofs.YtlgnfdodnhokjaaGreatDoor.Mq
