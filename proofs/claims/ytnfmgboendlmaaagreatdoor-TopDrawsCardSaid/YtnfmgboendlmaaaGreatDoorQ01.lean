/- part 1 of the proof -/
import Derived.KernelRfl
import Derived.Tactics
import Derived.Below
import Derived.Maps.AppendAt
set_option linter.all false
namespace Go.Proofs.YtnfmgboendlmaaaGreatDoor.Mq
open RowKit
variable {P:Program}{n:Nat}
variable {s:Act}{I:Addr}{p:Array Oper}{z:Bool}{f u:Code}{d:Ending->World->Prop}{g:Func}{B:FuncId}{b x:List Nat}{q:List Oper}{C:List Value}{e v:Nat}{y:Operand}{E:Option Nat}{G:TypeId}{j w:Value}{c i t:World}(A:List Value)(D:List Nat)(F:World)
theorem aa{p:Prop}(a:p:=by omega):p:=a
theorem ak{p:Prop}(a:p:=by kernel_rfl):p:=a
theorem au{p:Prop}(a:p:=by simp):p:=a
theorem aW{p:Prop}(a:p:=by decide):p:=a
theorem bo{p:Prop}(a:p:=by rfl):p:=a
theorem bR{p:Prop}(a:p:=by assumption):p:=a
theorem dC{p:Prop}(a:p:=by trivial):p:=a
theorem kr:type_of% @Array.append_empty:=@Array.append_empty
theorem jV:type_of% @Array.empty_append:=@Array.empty_append
theorem k5:type_of% @Array.getD_eq_getD_getElem?:=@Array.getD_eq_getD_getElem?
theorem wn:type_of% @Array.getElem?_append_left:=@Array.getElem?_append_left
theorem rf:type_of% @Array.getElem?_eq_getElem:=@Array.getElem?_eq_getElem
theorem lr:type_of% @Array.getElem?_eq_some_iff:=@Array.getElem?_eq_some_iff
theorem rg:type_of% @Array.getElem?_modify:=@Array.getElem?_modify
theorem wo:type_of% @Array.getElem?_setIfInBounds_ne:=@Array.getElem?_setIfInBounds_ne
theorem nx:type_of% @Array.length_toList:=@Array.length_toList
theorem wq:type_of% @Bool.and_eq_false_iff:=@Bool.and_eq_false_iff
theorem dK:type_of% @Bool.and_eq_true:=@Bool.and_eq_true
theorem rh:type_of% @Bool.and_true:=@Bool.and_true
theorem p4:type_of% @Bool.not_eq_true':=@Bool.not_eq_true'
theorem ny:type_of% @Bool.or_eq_true:=@Bool.or_eq_true
theorem oj:type_of% @Int.le_refl:=@Int.le_refl
theorem ri:type_of% @Int.natCast_nonneg:=@Int.natCast_nonneg
theorem gw:type_of% @Int.toNat_natCast:=@Int.toNat_natCast
theorem jW:type_of% @List.all_eq_true:=@List.all_eq_true
theorem ec:type_of% @List.append_assoc:=@List.append_assoc
theorem eZ:type_of% @List.append_nil:=@List.append_nil
theorem ug:type_of% @List.cons.injEq:=@List.cons.injEq
theorem nz:type_of% @List.cons_append:=@List.cons_append
theorem ls:type_of% @List.drop_drop:=@List.drop_drop
theorem lY:type_of% @List.drop_eq_getElem_cons:=@List.drop_eq_getElem_cons
theorem uh:type_of% @List.drop_length:=@List.drop_length
theorem p5:type_of% @List.drop_of_length_le:=@List.drop_of_length_le
theorem ol:type_of% @List.drop_zero:=@List.drop_zero
theorem jX:type_of% @List.eq_nil_of_length_eq_zero:=@List.eq_nil_of_length_eq_zero
theorem k6:type_of% @List.eq_of_mem_replicate:=@List.eq_of_mem_replicate
theorem jY:type_of% @List.ext_getElem?:=@List.ext_getElem?
theorem sw:type_of% @List.flatMap_append:=@List.flatMap_append
theorem nA:type_of% @List.flatMap_cons:=@List.flatMap_cons
theorem rj:type_of% @List.flatMap_nil:=@List.flatMap_nil
theorem rk:type_of% @List.foldlM_append:=@List.foldlM_append
theorem lu:type_of% @List.foldlM_cons:=@List.foldlM_cons
theorem ui:type_of% @List.foldl_cons:=@List.foldl_cons
theorem sx:type_of% @List.forall_mem_cons:=@List.forall_mem_cons
theorem fY:type_of% @List.getD_eq_getElem?_getD:=@List.getD_eq_getElem?_getD
theorem om:type_of% @List.getElem?_append_left:=@List.getElem?_append_left
theorem i_:type_of% @List.getElem?_append_right:=@List.getElem?_append_right
theorem sy:type_of% @List.getElem?_cons_zero:=@List.getElem?_cons_zero
theorem ja:type_of% @List.getElem?_drop:=@List.getElem?_drop
theorem bD:type_of% @List.getElem?_eq_getElem:=@List.getElem?_eq_getElem
theorem hK:type_of% @List.getElem?_eq_none:=@List.getElem?_eq_none
theorem cH:type_of% @List.getElem?_eq_some_iff:=@List.getElem?_eq_some_iff
theorem fw:type_of% @List.getElem?_map:=@List.getElem?_map
theorem sz:type_of% @List.getElem?_of_mem:=@List.getElem?_of_mem
theorem uj:type_of% @List.getElem?_range:=@List.getElem?_range
theorem sA:type_of% @List.getElem?_replicate:=@List.getElem?_replicate
theorem nB:type_of% @List.getElem?_set:=@List.getElem?_set
theorem ks:type_of% @List.getElem?_set_ne:=@List.getElem?_set_ne
theorem oo:type_of% @List.getElem?_set_self:=@List.getElem?_set_self
theorem iu:type_of% @List.getElem?_take:=@List.getElem?_take
theorem sB:type_of% @List.getElem_mem:=@List.getElem_mem
theorem yx:type_of% @List.getLast?_eq_some_getLast:=@List.getLast?_eq_some_getLast
theorem b3:type_of% @List.length_append:=@List.length_append
theorem dV:type_of% @List.length_cons:=@List.length_cons
theorem fL:type_of% @List.length_drop:=@List.length_drop
theorem c8:type_of% @List.length_map:=@List.length_map
theorem gN:type_of% @List.length_nil:=@List.length_nil
theorem sC:type_of% @List.length_pos_iff:=@List.length_pos_iff
theorem hy:type_of% @List.length_replicate:=@List.length_replicate
theorem gx:type_of% @List.length_set:=@List.length_set
theorem kt:type_of% @List.length_singleton:=@List.length_singleton
theorem dR:type_of% @List.length_take:=@List.length_take
theorem gF:type_of% @List.map_append:=@List.map_append
theorem sD:type_of% @List.map_congr_left:=@List.map_congr_left
theorem ku:type_of% @List.map_cons:=@List.map_cons
theorem o8:type_of% @List.map_map:=@List.map_map
theorem rl:type_of% @List.map_nil:=@List.map_nil
theorem p6:type_of% @List.map_set:=@List.map_set
theorem dq:type_of% @List.mem_append:=@List.mem_append
theorem p7:type_of% @List.mem_append_left:=@List.mem_append_left
theorem wr:type_of% @List.mem_append_right:=@List.mem_append_right
theorem eJ:type_of% @List.mem_cons:=@List.mem_cons
theorem sE:type_of% @List.mem_cons_of_mem:=@List.mem_cons_of_mem
theorem ei:type_of% @List.mem_map:=@List.mem_map
theorem cR:type_of% @List.mem_of_getElem?:=@List.mem_of_getElem?
theorem wt:type_of% @List.mem_of_getLast?:=@List.mem_of_getLast?
theorem kv:type_of% @List.mem_of_mem_drop:=@List.mem_of_mem_drop
theorem hz:type_of% @List.mem_of_mem_take:=@List.mem_of_mem_take
theorem sF:type_of% @List.mem_or_eq_of_mem_set:=@List.mem_or_eq_of_mem_set
theorem p8:type_of% @List.mem_range'_1:=@List.mem_range'_1
theorem uk:type_of% @List.mem_replicate:=@List.mem_replicate
theorem e0:type_of% @List.mem_singleton:=@List.mem_singleton
theorem mA:type_of% @List.nil_append:=@List.nil_append
theorem gO:type_of% @List.nodup_append:=@List.nodup_append
theorem o9:type_of% @List.not_mem_nil:=@List.not_mem_nil
theorem p9:type_of% @List.perm_append_comm:=@List.perm_append_comm
theorem p_:type_of% @List.perm_middle:=@List.perm_middle
theorem oq:type_of% @List.replicate_succ:=@List.replicate_succ
theorem wu:type_of% @List.reverse_append:=@List.reverse_append
theorem rm:type_of% @List.set_append_right:=@List.set_append_right
theorem sG:type_of% @List.set_cons_succ:=@List.set_cons_succ
theorem nC:type_of% @List.set_cons_zero:=@List.set_cons_zero
theorem sH:type_of% @List.set_eq_take_append_cons_drop:=@List.set_eq_take_append_cons_drop
theorem sI:type_of% @List.set_set:=@List.set_set
theorem ul:type_of% @List.singleton_append:=@List.singleton_append
theorem hA:type_of% @List.take_add_one:=@List.take_add_one
theorem iJ:type_of% @List.take_append_drop:=@List.take_append_drop
theorem um:type_of% @List.take_length:=@List.take_length
theorem eT:type_of% @List.take_of_length_le:=@List.take_of_length_le
theorem kw:type_of% @Nat.add_mul:=@Nat.add_mul
theorem un:type_of% @Nat.add_sub_cancel:=@Nat.add_sub_cancel
theorem sJ:type_of% @Nat.add_zero:=@Nat.add_zero
theorem uo:type_of% @Nat.and_le_left:=@Nat.and_le_left
theorem up:type_of% @Nat.and_two_pow_sub_one_eq_mod:=@Nat.and_two_pow_sub_one_eq_mod
theorem gX:type_of% @Nat.eq_of_beq_eq_true:=@Nat.eq_of_beq_eq_true
theorem hV:type_of% @Nat.eq_zero_or_pos:=@Nat.eq_zero_or_pos
theorem ej:type_of% @Nat.le_of_ble_eq_true:=@Nat.le_of_ble_eq_true
theorem cC:type_of% @Nat.le_refl:=@Nat.le_refl
theorem ge:type_of% @Nat.le_trans:=@Nat.le_trans
theorem ot:type_of% @Nat.lt_of_le_of_lt:=@Nat.lt_of_le_of_lt
theorem qa:type_of% @Nat.lt_of_lt_of_le:=@Nat.lt_of_lt_of_le
theorem fd:type_of% @Nat.lt_or_ge:=@Nat.lt_or_ge
theorem jZ:type_of% @Nat.min_eq_left:=@Nat.min_eq_left
theorem qb:type_of% @Nat.mod_eq_of_lt:=@Nat.mod_eq_of_lt
theorem jA:type_of% @Nat.mod_lt:=@Nat.mod_lt
theorem rn:type_of% @Nat.mul_comm:=@Nat.mul_comm
theorem wv:type_of% @Nat.mul_le_mul_left:=@Nat.mul_le_mul_left
theorem mB:type_of% @Nat.mul_le_mul_right:=@Nat.mul_le_mul_right
theorem wx:type_of% @Nat.ne_of_beq_eq_false:=@Nat.ne_of_beq_eq_false
theorem ou:type_of% @Nat.or_lt_two_pow:=@Nat.or_lt_two_pow
theorem sK:type_of% @Nat.pow_le_pow_right:=@Nat.pow_le_pow_right
theorem sL:type_of% @Nat.pow_lt_pow_right:=@Nat.pow_lt_pow_right
theorem ov:type_of% @Nat.sub_self:=@Nat.sub_self
theorem lv:type_of% @Nat.sub_zero:=@Nat.sub_zero
theorem qc:type_of% @Nat.succ_mul:=@Nat.succ_mul
theorem wy:type_of% @Nat.testBit_lt_two_pow:=@Nat.testBit_lt_two_pow
theorem ev:type_of% @Nat.zero_add:=@Nat.zero_add
theorem b4:type_of% @Nat.zero_le:=@Nat.zero_le
theorem sM:type_of% @Nat.zero_mul:=@Nat.zero_mul
theorem k7:type_of% @Option.bind_eq_some_iff:=@Option.bind_eq_some_iff
theorem sN:type_of% @Option.bind_some:=@Option.bind_some
theorem uq:type_of% @Option.getD_some:=@Option.getD_some
theorem sO:type_of% @Option.map_eq_some_iff:=@Option.map_eq_some_iff
theorem o_:type_of% @Option.map_some:=@Option.map_some
theorem kx:type_of% @Option.mem_toList:=@Option.mem_toList
theorem lw:type_of% @Option.some.inj:=@Option.some.inj
theorem ek:type_of% @Option.some.injEq:=@Option.some.injEq
theorem rp:type_of% @Option.toList_some:=@Option.toList_some
theorem ky:type_of% @UInt8.toNat_ofNat':=@UInt8.toNat_ofNat'
theorem a_:type_of% @congrArg:=@congrArg
theorem iK:type_of% @decide_eq_decide:=@decide_eq_decide
theorem bJ:type_of% @decide_eq_false:=@decide_eq_false
theorem fZ:type_of% @decide_eq_false_iff_not:=@decide_eq_false_iff_not
theorem bI:type_of% @decide_eq_true:=@decide_eq_true
theorem eQ:type_of% @decide_eq_true_eq:=@decide_eq_true_eq
theorem ai:type_of% @if_neg:=@if_neg
theorem aB:type_of% @if_pos:=@if_pos
theorem bm:type_of% @of_decide_eq_false:=@of_decide_eq_false
theorem bg:type_of% @of_decide_eq_true:=@of_decide_eq_true
theorem bh:type_of% @trivial:=@trivial
abbrev Fr:=List<|Nat × Value
def look:Fr->Nat->Option Value
 | [],_=>none
 | (b,c)::l,a=>match Nat.beq b a with
  | true=>some c
  | false=>look l a
def bi(l:Fr):Operand->Option Value
 | .tmp a=>look l a
 | .const b=>some b
 | .global c=>some<|.pointer<|some ⟨c,0,none⟩
 | .func d=>some<|.func (.func d) #[] #[]
structure hn (n:Nat) (l:Fr) (a:Act):Prop where
 size:a.tmps.size=n
 qd:a.defers=[]
 val: ∀t v,look l t=some v->a.tmps[t]? = some v
def hn.bi{n:Nat}{l:Fr}(b:hn n l s){x:Operand}{v:Value}(a:bi l x=some v):s.eval x=v:=by
 cases x with
 | tmp c=>simp[Act.eval,k5,b.val c v a]
 | const d=>simpa [Mq.bi,Act.eval] using a
 | global e=>simpa [Mq.bi,Act.eval] using a
 | func f=>simpa [Mq.bi,Act.eval] using a
def hn.put{n:Nat}{l:Fr}(b:hn n l s){d:Nat}(f:d<n)(e:Value):hn n ((d,e)::l) (s.put (some d) e):=by
 refine⟨by simp[Act.put,b.size],b.qd,λt g a=>?_⟩;have h:=b.size
 simp only[look] at a
 cases c:Nat.beq d t with
 | true=>
  rw[c] at a
  have i:=gX c
  subst i;simp only[ek] at a
  subst a;simp[Act.put,h,f]
 | false=>
  rw[c] at a
  have j:d≠t:=wx c
  simp only[Act.put];rw[wo j];exact b.val t g a
def Sub(l c:Fr):Prop:= ∀a b,look c a=some b->look l a=some b
def Sub.nil{l:Fr}:Sub l []:=λb c a=>by simp[look] at a
variable {k:Fr}
def Sub.cons{l:Fr}(d:look l e=some j)(f:Sub l k):Sub l ((e,j)::k):=by
 intro c g a;simp only[look] at a
 cases b:Nat.beq e c with
 | true=>
  rw[b] at a
  have h:=gX b
  subst h;simp only[ek] at a
  subst a;exact d
 | false=>rw[b] at a;exact f c g a
def Sub.refl(l:Fr):Sub l l:=λ_ _ a=>a
def hn.sub{n:Nat}{l:Fr}{a:Act}(b:hn n l a)(e:Sub l k):hn n k a:=⟨b.size,b.qd,λc d f=>b.val c d<|e c d f⟩
abbrev cN:=Exit->Fr->World->Prop
def qe(n:Nat)(Q:cN):Exit->Act->World->Prop:=λa b c=> ∃l,hn n l b/\Q a l c
def Bp(P:Program)(n:Nat)(b:Code)(Q:cN)(l:Fr)(c:World):Prop:= ∀a,hn n l a->b.wp P (qe n Q) a c
def dA(P:Program)(n:Nat)(b:Code)(Q:cN)(l:Fr)(H:World->Prop):Prop:= ∀a,H a->Bp P n b Q l a
def eK(Q:cN)(b:Exit)(l:Fr)(H:World->Prop):Prop:= ∀a,H a->Q b l a
def aM(P:Program)(n:Nat)(c:Array Oper)(Q:cN)(d:List Oper)(l:Fr)(H:World->Prop):Prop:=
 ∀a,H a-> ∀b,hn n l b->wpList P c (qe n Q) d b a
def yy(b:Fr->World->Prop)(Q:cN):cN
 | .normal,l,a=>b l a
 | e,l,a=>Q e l a
def rq(id:Nat)(Q:cN):cN
 | .exit b,l,a=>if b=id then Q .normal l a else Q (.exit b) l a
 | e,l,a=>Q e l a
def yz{ι:Type}(fr:ι->Fr)(gP:ι->World->Prop)(ok:ι->Prop)(ow:ι->Nat)(m:Nat)(Q:cN):cN
 | .normal,l,b=> ∃a,ok a/\ow a<m/\Sub l (fr a)/\gP a b
 | e,l,b=>Q e l b
def Fin(P:Program)(n:Nat)(d:Func)(e:Ending->World->Prop):cN
 | .normal,l,a | .ret,l,a=> ∀b,hn n l b-> ∃c,(results d b.tmps).run P a= .ok c a/\e (.returned c) a
 | _,_,_=>False
section
variable {Q:cN}{l:Fr}{H:World->Prop}
def dh{H':World->Prop}(b:dA P n f Q k H')(c:Sub l k)(d: ∀a,H a->H' a):dA P n f Q l H:=
 λa e g h=>b a (d a e) g<|h.sub c
def lx(c:dA P n f (yy (Bp P n u Q) Q) l H):dA P n (.seq f u) Q l H:=by
 intro d e g h;refine wp_seq<|wp_mono (c d e g h) ?_;intro i _ _ ⟨j,a,b⟩;cases i with
 | normal=>exact b _ a
 | _=>exact⟨j,a,b⟩
def Bq(a:eK Q .normal l H):dA P n .skip Q l H:=λb c _ d=>wp_skip ⟨l,d,a b c⟩
def FE(a:eK Q .normal l H):dA P n (.label e) Q l H:=λb c _ d=>wp_label ⟨l,d,a b c⟩
def No{id:Nat}(a:eK Q (.exit id) l H):dA P n (.exit id) Q l H:=λb c _ d=>wp_exit ⟨l,d,a b c⟩
def Np(a:eK Q .ret l H):dA P n .ret Q l H:=λb c _ d=>wp_ret ⟨l,d,a b c⟩
def Nq{id:Nat}(e:dA P n f (rq id Q) l H):dA P n (.block id f) Q l H:=by
 intro g h i j;refine wp_block<|wp_mono (e g h i j) ?_;intro k _ _ ⟨b,c,a⟩;cases k with
 | exit m=>
  simp only[rq] at a
  simp only[Exit.inBlock];split
  rename_i d;rw[aB d] at a;exact⟨b,c,a⟩
  rename_i d;rw[ai d] at a;exact⟨b,c,a⟩
 | _=>exact⟨b,c,a⟩
def cD(g:bi l y=some (.bool z))(h:z=true->dA P n f Q l H)(i:z=false->dA P n u Q l H):
 dA P n (.cond y f u) Q l H:=
 λc d e a=>wp_cond_split (a.bi g) (λb=>h b c d e a) λb=>i b c d e a
def cd{ι:Type}(fr:ι->Fr)(gP:ι->World->Prop)(ok:ι->Prop)(ow:ι->Nat)
 (x: ∀b,H b-> ∃a,ok a/\Sub l (fr a)/\gP a b)
 (y: ∀a,ok a->dA P n f (yz fr gP ok ow (ow a) Q) (fr a) (gP a)):dA P n (.loop f) Q l H:=by
 intro b z e A q r s;have B: ∀m a e b,ow a=m->ok a->hn n (fr a) e->gP a b->
  ∃g o p,qe n Q g o p/\Arrives P (lone (q.at e<|.code f:: .inLoop f::r) s b) q r s g o p:=by
  intro m;induction m using Nat.strongRecOn with
  | _ m C=>
   intro a e b D t E u;obtain⟨g,h,i,⟨k,j,c⟩,d⟩:=y a t b u e E q (.inLoop f::r) s;cases g with
   | normal=>
    obtain⟨w,F,G,v,I⟩:=c;obtain⟨J,K,L,M,N⟩:=C (ow w) (D▸G) w h i rfl F (j.sub v) I;exact⟨J,K,L,M,.of_steps (Steps.trans d<|.one step_inLoop) N⟩
   | exit id=>exact⟨_,h,i,⟨k,j,c⟩,.pass (x:= .inLoop f) rfl (λ_ _=> .inl au) d⟩
   | goto l=>exact⟨_,h,i,⟨k,j,c⟩,.pass (x:= .inLoop f) rfl (λ_ _=> .inl au) d⟩
   | ret=>exact⟨_,h,i,⟨k,j,c⟩,.pass (x:= .inLoop f) rfl (λ_ _=> .inl au) d⟩
   | panic O=>exact⟨_,h,i,⟨k,j,c⟩,.pass (x:= .inLoop f) rfl (λ_ _=> .inl au) d⟩
   | outgrown=>exact⟨_,h,i,⟨k,j,c⟩,.pass (x:= .inLoop f) rfl (λ_ _=> .inl au) d⟩
 obtain⟨a,t,v,u⟩:=x b z;obtain⟨g,o,p,c,d⟩:=B _ a e b rfl t (A.sub v) u;exact⟨g,o,p,c,.of_steps (.one step_loop) d⟩
def ly{id:Nat}(a:aM P n q.toArray Q q l H):dA P n (.region id q.toArray false) Q l H:=
 λb c d e=>wp_region_lit<|a b c d e
def mC(a:dA P n f Q l H):eK (yy (Bp P n f Q) Q) .normal l H:=a
variable {o:Fr->World->Prop}
def ur(a:eK Q (.exit e) l H):eK (yy o Q) (.exit e) l H:=a
def yA(a:eK Q .ret l H):eK (yy o Q) .ret l H:=a
def Nr(a:eK Q .normal l H):eK (rq e Q) .normal l H:=a
def Ns(a:eK Q .ret l H):eK (rq e Q) .ret l H:=a
def rr(a:eK Q .normal l H):eK (rq e Q) (.exit e) l H:=λb c=>by simp only[rq,if_true];exact a b c
def rs{i:Nat}(a: (Nat.beq i e)=false)(b:eK Q (.exit e) l H):eK (rq i Q) (.exit e) l H:=λc d=>by
 have:e≠i:=λf=>wx a f.symm
 simp only[rq,ai this];exact b c d
section
variable {ι:Type}{fr:ι->Fr}{gP:ι->World->Prop}{ok:ι->Prop}{ow:ι->Nat}{m:Nat}
def ru(a:eK Q (.exit e) l H):eK (yz fr gP ok ow m Q) (.exit e) l H:=a
def Nt(a:eK Q .ret l H):eK (yz fr gP ok ow m Q) .ret l H:=a
def bv(a:ι)(c:ok a)(d:ow a<m)(e:Sub l (fr a))(f: ∀b,H b->gP a b):eK (yz fr gP ok ow m Q) .normal l H:=
 λb g=>⟨a,c,d,e,f b g⟩
end
def Nu(b:g.results= #[.tmp e])(c:look l e=some j)(f: ∀a,H a->d (.returned j) a):eK (Fin P n g d) .ret l H:=by
 intro a h k i;refine⟨_,results_tmp b _ _ _,?_⟩;rw[k5,i.val e j c];exact f a h
def FF(b:g.results= #[])(c: ∀a,H a->d (.returned<|.tuple #[]) a):eK (Fin P n g d) .ret l H:=by
 exact λa e f h=>⟨_,results_none b _ _ _,c a e⟩
def Br(b:g.results= #[])(c: ∀a,H a->d (.returned<|.tuple #[]) a):eK (Fin P n g d) .normal l H:=
 FF (P:=P) b c
def Nv(c:g.results= #[.tmp e,.tmp v])(f:look l e=some j)(h:look l v=some w)(i: ∀a,H a->d (.returned<|.tuple #[j,w]) a):eK (Fin P n g d) .ret l H:=by
 intro a k m b;refine⟨_,results_tmp2 c _ _ _,?_⟩;rw[k5,k5,b.val e j f,b.val v w h];exact i a k
def Nw{c:Nat}{a:Value}(h:g.results= #[.tmp e,.tmp v,.tmp c])(i:look l e=some j)(k:look l v=some w)(m:look l c=some a)
 (o: ∀b,H b->d (.returned<|.tuple #[j,w,a]) b):eK (Fin P n g d) .ret l H:=by
 intro b p q f;refine⟨.tuple #[j,w,a],?_,o b p⟩;simp[results,h,k5,f.val e j i,f.val v w k,f.val c a m]
def nD(a:eK Q .normal l H):aM P n p Q [] l H:=λb c _ d=>wpList_nil ⟨l,d,a b c⟩
def iL{H':World->Prop}(b:aM P n p Q q k H')(c:Sub l k)(d: ∀a,H a->H' a):aM P n p Q q l H:=
 λa e f g=>b a (d a e) f<|g.sub c
end
def pa:List Value->Nat->Fr
 | [],_=>[]
 | v::b,a=>(a,v)::pa b (a+1)
def FG : ∀(a b:Nat)(v:Value),look (pa A a) b=some v->a<=b/\A[b - a]? = some v:=by
 induction A with
 | nil=>intro a b v c;simp[pa,look] at c
 | cons h i e=>
  intro a b v c;simp only[pa,look] at c
  cases d:Nat.beq a b with
  | true=>
   rw[d] at c
   have f:=gX d
   subst f;simpa using c
  | false=>
   rw[d] at c
   have j:=wx d
   obtain⟨k,g⟩:=e (a+1) b v c;refine⟨aa,?_⟩;have:b - a=(b - (a+1))+1:=by omega
   rw[this,List.getElem?_cons_succ];exact g
def calls{P:Program}{R:Ending->World->Prop}
 (n:Nat) (m:P.funcs[B]? = some g) (o:g.body=some f) (p:g.ntmps=n) (q:Nat.ble C.length n=true)
 (r:dA P n f (Fin P n g R) (pa C 0) λs=>s=c):Calls P B C.toArray c R:=by
 subst p;refine calls_of_wp m o<|wp_mono (r c rfl _ ?_) ?_;have v:=ej q
 refine⟨by simp;omega,rfl,λj b d=>?_⟩;obtain⟨_,d⟩:=FG C 0 j b d;have t:j<C.length:=by
  have:=(cH.1<|by simpa using d).1
  exact this
 simp only[lv] at d
 rw[wn (by simpa using t)];simpa using d
 intro u k c ⟨l,e,a⟩;cases u with
 | normal=>obtain⟨b,h,i⟩:=a k e;exact⟨e.qd,b,h,i⟩
 | ret=>obtain⟨b,h,i⟩:=a k e;exact⟨e.qd,b,h,i⟩
 | exit _=>exact a.elim
 | goto _=>exact a.elim
 | panic _=>exact a.elim
 | outgrown=>exact a.elim
structure Ext (S:List Nat) (w w':World):Prop where
 os:w'.os=w.os
 tape:w'.tape=w.tape
 output:w'.output=w.output
 size:w.heap.size<=w'.heap.size
 block: ∀b,b<w.heap.size->b∉S->w'.heap[b]? = w.heap[b]?
def Ext.refl(w:World):Ext D w w:=⟨rfl,rfl,rfl,cC _,λ_ _ _=>rfl⟩
def Ext.trans{g:List Nat}{a b c:World}(d:Ext g a b)(f:Ext x b c)(j: ∀e∈x,e<a.heap.size->e∈g):Ext g a c:=
 ⟨f.os.trans d.os,f.tape.trans d.tape,f.output.trans d.output,ge d.size f.size,λe h i=>
  (f.block e (qa h d.size) λk=>i<|j e k h).trans (d.block e h i)⟩
def Ext.eC{a c:World}(d:Ext b a i)(e:Ext [] i c):Ext b a c:=d.trans e au
def Ext.mono{e:List Nat}{b:World}(a:Ext e c b)(g: ∀d∈e,d<c.heap.size->d∈x):Ext x c b:=
 ⟨a.os,a.tape,a.output,a.size,λd f h=>a.block d f λi=>h<|g d i f⟩
def Ext.cell(a:Ext b c i){p:Addr}(d:p.block<c.heap.size)(e:p.block∉b):i.cell? p=c.cell? p:=
 World.cell?_of_block (w:=c) (a.block p.block d e)
def Ext.alloc(a:World)(b:Obj)(c:List Nat):Ext c a (a.alloc b):=⟨rfl,rfl,rfl,by simp,λe d _=>Below.heap_alloc _ _ _ d⟩
def Ext.setCell(a:World)(b:Addr)(c:Value):Ext [b.block] a (a.setCell b c):=
 ⟨rfl,rfl,rfl,by simp,λe _ d=>Below.heap_setCell _ _ _ _<|by simpa using d⟩
def Ext.us(a:Below c.heap.size c i):Ext [] c i:=⟨a.os,a.tape,a.output,a.size,λb d _=>a.block b d⟩
def Ext.wz(a:c.grownBy i E):Ext E.toList c i:=
 ⟨a.os,a.tape,a.output,a.size,λb d e=>a.block b d (by cases E <;> simp_all)⟩
structure Chunk where
 cT:List Nat
 pred:World->Prop
 low: ∀w,pred w-> ∀b∈cT,b<w.heap.size
 loc: ∀w w':World,(∀b∈cT,w'.heap[b]? = w.heap[b]?)->pred w->pred w'
def aK(a:List Chunk):List Nat:=a.flatMap (·.cT)
def gy(a:Chunk)(b:List Chunk):aK (a::b)=a.cT++aK b:=rfl
structure ag (b:World) (S:List Nat) (cs:List Chunk) (w:World):Prop where
 ext:Ext S b w
 nodup: (aK cs).Nodup
 all: ∀c∈cs,c.pred w
 eU: ∀k∈aK cs,k<b.heap.size->k∈S
variable {a:List Chunk}
def er :e∈aK a↔ ∃b∈a,e∈b.cT:=by simp[aK]
def ag.lt(e:ag c b a i){k:Nat}(f:k∈aK a):k<i.heap.size:=by
 obtain⟨d,g,h⟩:=er.1 f;exact d.low i (e.all d g) k h
def ag.start(w:World):ag w [] [] w:=⟨Ext.refl _ _,by simp[aK],by simp,by simp[aK]⟩
def ag.FH(w:World)(a:w=F):ag F [] [] w:=a▸ag.start F
def ag.qf{w:World}(d:ag c b a w):ag w (aK a) a w:=
 ⟨Ext.refl _ _,d.nodup,d.all,λ_ e _=>e⟩
def ag.Bs{ut:List Nat}{w:World}(e:ag i ut a w)(f:Ext b c i)(g: ∀d∈ut,d<c.heap.size->d∈b):ag c b a w:=
 ⟨f.trans e.ext g,e.nodup,e.all,λd j h=>g d (e.eU d j<|qa h f.size) h⟩
def ag.keep(d:ag c b a i)(f:Ext [] i t):ag c b a t:=
 ⟨d.ext.eC f,d.nodup,λe g=>e.loc i t (λh j=>f.block h (e.low i (d.all e g) h j) au)<|d.all e g,d.eU⟩
variable {h:Chunk}
def ag.add(e:ag c b a i)(k:Ext [] i t)(l:h.pred t)(g: ∀f∈h.cT,i.heap.size<=f)(m:h.cT.Nodup):ag c b (h::a) t:=by
 have j:=e.keep k
 refine⟨j.ext,?_,?_,?_⟩;rw[gy,gO];refine⟨m,e.nodup,λn o v p w=>?_⟩;have q:=g n o
 have r:=e.lt p
 omega
 intro s aj;rcases eJ.1 aj with rfl | aj
 exact l;exact j.all s aj;intro f d u;rw[gy,dq] at d
 rcases d with d | d
 have q:=g f d
 have r:=e.ext.size
 omega
 exact e.eU f d u
def ag.pb{d:World}{w:World}(f:ag d b a w){c:Chunk}(g:c.pred w)(e:c.cT=[]):ag d b (c::a) w:=
 f.add (Ext.refl _ _) g (by simp[e]) (by simp[e])
inductive bC:List Chunk->Chunk->Chunk->List Chunk->Prop
 | head {c c':Chunk} {cs:List Chunk}:bC (c::cs) c c' (c'::cs)
 | tail {c c' x:Chunk} {cs cs':List Chunk}:bC cs c c' cs'->bC (x::cs) c c' (x::cs')
def bC.split{c:List Chunk}{d:Chunk}(e:bC a h d c): ∃b r,a=b++h::r/\c=b++d::r:=by
 induction e with
 | head=>exact⟨[],_,rfl,rfl⟩
 | @tail h d f a c _ g=>obtain⟨b,r,rfl,rfl⟩:=g;exact⟨f::b,r,rfl,rfl⟩
inductive Has:List Chunk->Chunk->Prop
 | head {c:Chunk} {cs:List Chunk}:Has (c::cs) c
 | tail {c x:Chunk} {cs:List Chunk}:Has cs c->Has (x::cs) c
def Has.mem(b:Has a h):h∈a:=by
 induction b with
 | head=>simp
 | tail _ c=>exact sE _ c
inductive bH:List Chunk->Chunk->List Chunk->Prop
 | head {c:Chunk} {cs:List Chunk}:bH (c::cs) c cs
 | tail {c x:Chunk} {cs cs':List Chunk}:bH cs c cs'->bH (x::cs) c (x::cs')
def bH.split{c:List Chunk}(d:bH a h c): ∃b r,a=b++h::r/\c=b++r:=by
 induction d with
 | head=>exact⟨[],_,rfl,rfl⟩
 | @tail h e a c _ f=>obtain⟨b,r,rfl,rfl⟩:=f;exact⟨e::b,r,rfl,rfl⟩
def jb(a r:List Chunk):aK (a++r)=aK a++aK r:=by simp[aK]
def ag.has{d:World}{w:World}(e:ag d b a w){c:Chunk}(f:Has a c):c.pred w:=e.all c f.mem
variable {r:List Chunk}
def ag.rem{w:World}(e:ag c b a w)(f:bH a h r):ag c b r w:=by
 obtain⟨j,k,rfl,rfl⟩:=f.split;refine⟨e.ext,?_,λg aj=>e.all g (by rcases dq.1 aj with aj | aj <;> simp[aj]),λi d=>e.eU i (by
  rw[jb,dq] at d
  rcases d with d | d <;> simp[jb,gy,d])⟩
 have:=e.nodup
 rw[jb,gy] at this
 rw[jb];exact this.sublist au
def ag.iM{p:World}(g:ag p b a i){c c':Chunk}(v:bC a c c' r)(n:Ext c.cT i t)(w:c'.pred t)
 (o: ∀d∈c'.cT,d∈c.cT\/i.heap.size<=d) (x:c'.cT.Nodup):ag p b r t:=by
 obtain⟨y,z,rfl,rfl⟩:=v.split;have q:=g.nodup
 rw[jb,gy,gO,gO] at q
 obtain⟨A,⟨H,B,C⟩,s⟩:=q;have k: ∀e,e∈y\/e∈z-> ∀d∈e.cT,d<i.heap.size/\d∉c.cT:=by
  intro e aj d f;refine⟨e.low i (g.all e (by rcases aj with aj | aj <;> simp[aj])) d f,λu=>?_⟩;rcases aj with aj | aj
  exact s d (er.2 ⟨e,aj,f⟩) d (by simp[u]) rfl;exact C d u d (er.2 ⟨e,aj,f⟩) rfl
 refine⟨g.ext.trans n λh l m=>g.eU h (by simp[jb,gy,l]) m,?_,?_,?_⟩;rw[jb,gy,gO,gO];refine⟨A,⟨x,B,?_⟩,?_⟩;rintro h l D j rfl;obtain⟨e,aj,E⟩:=er.1 j;have:=k e (.inr aj) h E
 rcases o h l with ab | ab
 exact this.2 ab;omega
 rintro h l D j rfl;obtain⟨e,aj,F⟩:=er.1 l;have G:=k e (.inl aj) h F
 rcases dq.1 j with j | j
 rcases o h j with ab | ab
 exact G.2 ab;omega
 exact s h l h (by simp[j]) rfl;intro e aj;simp only[dq,eJ] at aj
 rcases aj with aj | rfl | aj
 exact e.loc i t (λd f=>n.block d (k e (.inl aj) d f).1 (k e (.inl aj) d f).2)<|g.all e (by simp[aj]);exact w;exact e.loc i t (λd f=>n.block d (k e (.inr aj) d f).1 (k e (.inr aj) d f).2)<|g.all e (by simp[aj]);intro d f m;rw[jb,gy,dq,dq] at f
 rcases f with f | f | f
 exact g.eU d (by simp[jb,gy,f]) m;rcases o d f with ab | ab
 exact g.eU d (by simp[jb,gy,ab]) m;have:=g.ext.size
 omega
 exact g.eU d (by simp[jb,gy,f]) m
def aG(g:Nat)(b:List Value)(c:TypeId):Chunk where
 cT:=[g]
 pred w:=w.heap[g]? = some (.cells b.toArray c (0,0))
 low w h k a:=by
  simp only[e0] at a
  subst a
  exact (lr.1 h).1
 loc w d h ao:=by rw[h g au];exact ao
def own(e:TypeId)(size:Nat)(v:Value)(n:Nat)(a:List Value):Chunk where
 cT:=v.ownBlock.toList
 pred w:=w.ownsRow 0 e size v n a
 low w h k b:=(h.lt k<|by simpa using b).2
 loc w f h ao:=by
  refine⟨ao.1,?_⟩
  rcases ao.2 with aC | ⟨g,cap,am,rfl,c,d,rest⟩
  exact .inl aC
  exact .inr ⟨g,cap,am,rfl,c,by rw[h g (by simp[Value.ownBlock])];exact d,rest⟩
def ag.e8(d:ag c b a i){g:Nat}{xs:List Value}(e:Has a (aG g xs G)){o:Nat}{v:Value}(f:xs[o]? = some v):
 i.cell? ⟨g,o,none⟩=some v:=by
 have h:=d.has e
 rw[cell_of_row i g o xs.toArray G (0,0) h];simpa using f
def ag.ch(e:ag c b a i){v:Value}(d:c.cell? I=some v)(f:I.block∉b):i.cell? I=some v:=by
 rw[e.ext.cell (World.block_lt_of_cell? _ _ d) f];exact d
