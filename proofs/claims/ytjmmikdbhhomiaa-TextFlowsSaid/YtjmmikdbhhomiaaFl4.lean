/- text: chapter 8 for this seat: Awake, Reflow1, Reflow2, Reflow3 (printed by gen_flow.py) -/
import Derived.Test.YtjmmikdbhhomiaaFl3
namespace Go.Proofs.Ytjmmikdbhhomiaa.Mq
open Go Go.RowKit Go.Proofs

def IsRows (L : List RowL) (w : World) (v : Value) (w' : World) : Prop := ∃ A n c, v = .slice A n c ∧ RdRows w' (fun k => w.heap.size ≤ k) A n c L
theorem RetRows.toA {w w' : World} {L : List RowL} {e : Ending} (h : RetRows w L e w') : RetA (IsRows L w) w e w' := by
  obtain ⟨A, n, c, h1, h2, h3⟩ := h
  exact ⟨_, h1, h2, A, n, c, rfl, h3⟩
def exL : List CellV := [⟨97, [], 0, zeroA⟩, ⟨98, [], 0, zeroA⟩, ⟨12354, [], 1, zeroA⟩, ⟨12354, [], 2, zeroA⟩, ⟨99, [], 0, zeroA⟩]
def exR : List RowL := [([⟨97, [], 0, zeroA⟩, ⟨98, [], 0, zeroA⟩, ⟨0, [], 3, zeroA⟩], false), ([⟨12354, [], 1, zeroA⟩, ⟨12354, [], 2, zeroA⟩, ⟨99, [], 0, zeroA⟩], true)]
theorem exS : splitF exL 3 = exR := by rfl
theorem exF : flowF exR = exL := by rfl
end Go.Proofs.Ytjmmikdbhhomiaa.Mq

namespace Go.Proofs.Ytjmmikdbhhomiaa.Mq
open Go Go.RowKit Go.Proofs

def segOld (rows : List RowL) (p : Int × Int) : List RowL := (rows.take p.2.toNat).drop p.1.toNat
def segF (rows : List RowL) (cols : Nat) (p : Int × Int) : List RowL := splitF (flowF (segOld rows p)) cols
def outF (rows : List RowL) (cols : Nat) (L : List (Int × Int)) : List RowL := L.flatMap (segF rows cols)
def rowP (p : PosV) : Int := max 0 p.row
def colP (p : PosV) : Int := if p.row < 0 then 0 else p.col
noncomputable def newPos (rows : List RowL) (cols base : Nat) (ln : Int × Int) (p : PosV) : PosV :=
  ⟨(placeR (segF rows cols ln) (offR (segOld rows ln) ⟨rowP p - ln.1, colP p⟩)).row + base, (placeR (segF rows cols ln) (offR (segOld rows ln) ⟨rowP p - ln.1, colP p⟩)).col⟩
noncomputable def updP (rows : List RowL) (cols base : Nat) (ln : Int × Int) (p acc : PosV) : PosV := if ln.1 ≤ rowP p ∧ rowP p < ln.2 then newPos rows cols base ln p else acc
noncomputable def stF (rows : List RowL) (cols : Nat) (p : PosV) : List (Int × Int) → Nat → PosV → PosV
  | [], _, acc => acc
  | ln :: L, base, acc => stF rows cols p L (base + (segF rows cols ln).length) (updP rows cols base ln p acc)
theorem outF_snoc (rows : List RowL) (cols : Nat) (L : List (Int × Int)) (ln : Int × Int) : outF rows cols (L ++ [ln]) = outF rows cols L ++ segF rows cols ln := by simp [outF]
theorem stF_snoc (rows : List RowL) (cols : Nat) (p : PosV) (ln : Int × Int) : ∀ (L : List (Int × Int)) (base : Nat) (acc : PosV),
    stF rows cols p (L ++ [ln]) base acc = updP rows cols (base + (outF rows cols L).length) ln p (stF rows cols p L base acc)
  | [], base, acc => by simp [stF, outF]
  | x :: L, base, acc => by
    rw [List.cons_append, stF, stF, stF_snoc rows cols p ln L]
    congr 1
    simp [outF]
    omega
noncomputable def posF (rows : List RowL) (cols : Nat) (p : PosV) : PosV :=
  if (rows.length : Int) ≤ p.row ∨ rows.length = 0 then ⟨((outF rows cols (linesL rows rows.length)).length : Int), 0⟩ else stF rows cols p (linesL rows rows.length) 0 p
/-- sizes -/
theorem flowF_length (rows : List RowL) : (flowF rows).length ≤ sumLen rows := by
  rw [flowF, trimL, List.length_take, mendL_length]
  have := cellsOf_le rows
  omega
theorem sumLen_seg (rows : List RowL) (p : Int × Int) : sumLen (segOld rows p) ≤ sumLen rows := Nat.le_trans (sumLen_drop_le _ _) (sumLen_take_le _ _)
theorem splitF_le (l : List CellV) (cols : Nat) (hc : 2 ≤ cols) : (splitF l cols).length ≤ l.length + 1 ∧ sumLen (splitF l cols) = (splitF l cols).length * cols := by
  have h1 := splitAux_length (l.length + 1) (plainF l) cols false hc
  rw [plainF_length] at h1
  exact ⟨h1, splitAux_sum _ _ _ _⟩
/-- what a line holds of all -/
theorem sumLen_two (rows : List RowL) (a b c : Nat) (h1 : a ≤ b) (h2 : b ≤ c) : sumLen ((rows.take b).drop a) + sumLen ((rows.take c).drop b) = sumLen ((rows.take c).drop a) := by
  have h : (rows.take c).drop a = (rows.take b).drop a ++ (rows.take c).drop b := by
    have h3 := List.take_append_drop (b - a) ((rows.take c).drop a)
    rw [List.drop_drop, show a + (b - a) = b by omega, ← List.drop_take, List.take_take, Nat.min_eq_left h2] at h3
    rw [h3]
  rw [h, sumLen_app]
end Go.Proofs.Ytjmmikdbhhomiaa.Mq

namespace Go.Proofs.Ytjmmikdbhhomiaa.Mq
open Go Go.RowKit Go.Proofs

theorem RdRows.strong {w : World} {F : Nat → Prop} {A : Option Addr} {n c : Nat} {rows : List RowL} (h : RdRows w F A n c rows) : RdRows w (fun k => F k ∧ k < w.heap.size) A n c rows := by
  obtain ⟨rs, h1, h2, h3⟩ := h.prf
  exact ⟨rs, h1.strong (by decide), h2, fun k r row hk hr => (h3 k r row hk hr).strong (by decide)⟩
theorem offR_bd (rows : List RowL) (p : PosV) : 0 ≤ offR rows p ∧ offR rows p ≤ (sumLen rows : Int) := by
  unfold offR
  split
  · omega
  · split
    · have := cnt_le rows rows.length; omega
    · have h1 := cnt_le rows (p.row.toNat + 1)
      have h2 := cnt_mono (rows := rows) (j := p.row.toNat) (k := p.row.toNat + 1) (by omega)
      omega
theorem placeR_bd (rows : List RowL) (off : Int) (ho : off ≤ 4000000) : (0 ≤ (placeR rows off).row ∧ (placeR rows off).row ≤ (rows.length : Int)) ∧ -(sumLen rows : Int) ≤ (placeR rows off).col ∧ (placeR rows off).col ≤ 4000000 := by
  unfold placeR
  split
  · simp
  · split
    · have h1 := cnt_le rows rows.length
      have h2 := cnt_le rows (rows.length - 1)
      dsimp only
      omega
    · have h1 := cnt_le rows (findK rows (max 0 off))
      have h2 := (findK_is rows (max 0 off)).1
      dsimp only
      omega
theorem outF_chain {rows : List RowL} {cols : Nat} (hc : 2 ≤ cols) : ∀ (M : List (Int × Int)) (a b : Nat), chainL rows a M b → (outF rows cols M).length + sumLen ((rows.take a).drop 0) ≤ sumLen ((rows.take b).drop 0) + (b - a)
  | [], a, b, h => by
    have h : a = b := h
    subst h
    simp [outF]
  | p :: M, a, b, h => by
    obtain ⟨e, rfl, h2, _, _, h5⟩ := h
    have ih := outF_chain hc M e b h5
    have hle := chain_le M e b h5
    have h6 := sumLen_two rows 0 a e (by omega) (by omega)
    have h7 := (splitF_le (flowF ((rows.take e).drop a)) cols hc).1
    have h8 := flowF_length ((rows.take e).drop a)
    have h9 : segF rows cols ((a : Int), (e : Int)) = splitF (flowF ((rows.take e).drop a)) cols := by simp [segF, segOld]
    have h10 : outF rows cols (((a : Int), (e : Int)) :: M) = segF rows cols ((a : Int), (e : Int)) ++ outF rows cols M := by simp [outF]
    rw [h10, List.length_append, h9]
    omega
theorem outF_total {rows : List RowL} {cols : Nat} (hc : 2 ≤ cols) : (outF rows cols (linesL rows rows.length)).length ≤ sumLen rows + rows.length := by
  rcases linesL_chain rows rows.length with ⟨h1, h2⟩ | ⟨M, s, h1, h2, h3, h4⟩
  · rw [h1]; simp [outF]
  · rw [h1, outF_snoc, List.length_append]
    have h5 := outF_chain hc M 0 s h4
    have h7 := (splitF_le (flowF ((rows.take rows.length).drop s)) cols hc).1
    have h8 := flowF_length ((rows.take rows.length).drop s)
    have h9 : segF rows cols ((s : Int), (rows.length : Int)) = splitF (flowF ((rows.take rows.length).drop s)) cols := by simp [segF, segOld]
    have h6 := sumLen_two rows 0 s rows.length (by omega) (by omega)
    rw [h9]
    rw [List.take_length] at h6 h7 h8
    simp only [List.take_length, List.drop_zero, List.take_zero] at h5 h6 h7 h8 ⊢
    have h10 : sumLen ([] : List RowL) = 0 := rfl
    omega
theorem outF_part {rows : List RowL} {cols : Nat} {L1 L2 : List (Int × Int)} (h : linesL rows rows.length = L1 ++ L2) (hc : 2 ≤ cols) : (outF rows cols L1).length ≤ sumLen rows + rows.length := by
  have h1 := outF_total (rows := rows) hc
  rw [h] at h1
  have h2 : outF rows cols (L1 ++ L2) = outF rows cols L1 ++ outF rows cols L2 := by simp [outF]
  rw [h2, List.length_append] at h1
  omega
end Go.Proofs.Ytjmmikdbhhomiaa.Mq

namespace Go.Proofs.Ytjmmikdbhhomiaa.Mq
open Go Go.RowKit Go.Proofs

noncomputable abbrev chunksP (v9 : Value) (rs : List RowV) (A8 : Option Addr) (m c8 : Nat) (ps : List PosV) : List Chunk :=
  [own 31 2 v9 rs.length (ERow.all rs), own 44 2 (.slice A8 m c8) m (EPos.all ps)]
structure ReSt where
  wi : World
  v9 : Value
  rs : List RowV
  L1 : List (Int × Int)
  L2 : List (Int × Int)
  a : Nat
structure ReOk (w : World) (cols : Nat) (rows : List RowL) (l : List PosV) (A8 : Option Addr) (m c8 : Nat) (A29 : Option Addr) (n29 c29 : Nat) (s : ReSt) : Prop where
  e1 : Ext [] w s.wi
  nest : ∀ (k : Nat) (r : RowV) (row : RowL), s.rs[k]? = some r → (outF rows cols s.L1)[k]? = some row → Rd ECell s.wi (fun k => w.heap.size ≤ k ∧ k ∉ feet (chunksP s.v9 s.rs A8 m c8 (l.map fun p => stF rows cols p s.L1 0 p))) r.A r.n r.c row.1
  conts : s.rs.map (·.cont) = (outF rows cols s.L1).map (·.2)
  lin : Rd EPair s.wi (fun k => w.heap.size ≤ k ∧ k ∉ feet (chunksP s.v9 s.rs A8 m c8 (l.map fun p => stF rows cols p s.L1 0 p))) A29 n29 c29 (linesL rows rows.length)
  fresh : ∀ g ∈ feet (chunksP s.v9 s.rs A8 m c8 (l.map fun p => stF rows cols p s.L1 0 p)), w.heap.size ≤ g
  parts : linesL rows rows.length = s.L1 ++ s.L2
  ch : chainE rows rows.length s.a s.L2
def RetReflow (w : World) (out : List RowL) (ps : List PosV) : Ending → World → Prop := fun e w' =>
  ∃ A1 n1 c1 A2 n2 c2, e = .returned (.tuple #[.slice A1 n1 c1, .slice A2 n2 c2]) ∧ Ext [] w w' ∧ RdRows w' (fun k => w.heap.size ≤ k) A1 n1 c1 out ∧ Rd EPos w' (fun k => w.heap.size ≤ k) A2 n2 c2 ps
def Pos64 (p : PosV) : Prop := (-9223372036854775808 ≤ p.row ∧ p.row ≤ 9223372036854775807) ∧ -9223372036854775808 ≤ p.col ∧ p.col ≤ 9223372036854775807

theorem map_step (f g : PosV → PosV) {l : List PosV} {i : Nat} {x : PosV} (hx : l[i]? = some x) :
    ((l.take i).map f ++ (l.drop i).map g).set i (f x) = (l.take (i + 1)).map f ++ (l.drop (i + 1)).map g ∧ (f x = g x → (l.take i).map f ++ (l.drop i).map g = (l.take (i + 1)).map f ++ (l.drop (i + 1)).map g) ∧ ((l.take i).map f ++ (l.drop i).map g)[i]? = some (g x) := by
  have hlt := (List.getElem?_eq_some_iff.1 hx).1
  have hd : l.drop i = x :: l.drop (i + 1) := by
    rw [List.drop_eq_getElem_cons hlt, (List.getElem?_eq_some_iff.1 hx).2]
  have hlen : ((l.take i).map f).length = i := by simp; omega
  rw [take_snoc' hx, hd, List.map_append, List.map_cons, List.map_cons, List.map_nil, List.append_assoc]
  refine ⟨?_, fun h => by rw [← h]; rfl, ?_⟩
  · rw [List.set_append_right _ _ (by omega), hlen, Nat.sub_self]; rfl
  · rw [List.getElem?_append_right (by omega), hlen, Nat.sub_self]; rfl
theorem ReflowG_c (w : World) (F G : Nat → Prop) (A B : Option Addr) (n c m d : Nat) (rows : List RowL) (l : List PosV) (cols : Nat) (hr0 : RdRows w F A n c rows) (hl0 : Rd EPos w G B m d l) (hn : n ≤ 1000) (hsz : sumLen rows ≤ 100000) (hfl0 : ∀ ln ∈ linesL rows n, (flowF (segOld rows ln)).length ≤ 600) (hm : m ≤ 40) (hp : ∀ p ∈ l, Pos64 p) (hc1 : 2 ≤ cols) (hc2 : cols ≤ 1000) :
    Calls Try.prog 8 [.slice A n c, .int .i64 (cols : Int), .slice B m d].toArray w (RetReflow w (outF rows cols (linesL rows n)) (l.map (posF rows cols))) := by
  have hl := hr0.len
  subst hl
  have hlm := hl0.len
  have hr := hr0.strong
  have hlp := hl0.strong (by decide)
  refine calls (n := 132) Try.func8 rfl Try.ntmps8 rfl ?_
  refine CW.sub (H' := SH w [] []) ?_ (Sub.refl _) (fun x hx => SH.start' _ _ hx)
  refine CW.ownNil 44 2 ?_
  refine CW.seq (CW.region ?_)
  refine RW.assign rfl rfl ?_
  refine RW.assign rfl rfl ?_
  refine RW.nil (EX.seq (CW.seq ?_))
  -- mq: region
  refine CW.region ?_
  refine RW.move rfl rfl ?_
  -- mq: at
  refine RW.appendSl (E := EPos) sl39 rfl rfl rfl (fun _ => by first | exact Upd.head | exact Upd.tail Upd.head | exact Upd.tail (Upd.tail Upd.head) | exact Upd.tail (Upd.tail (Upd.tail Upd.head)) | exact Upd.tail (Upd.tail (Upd.tail (Upd.tail Upd.head))) | exact Upd.tail (Upd.tail (Upd.tail (Upd.tail (Upd.tail Upd.head)))) | exact Upd.tail (Upd.tail (Upd.tail (Upd.tail (Upd.tail (Upd.tail Upd.head)))))) (fun w' hw' => hlp.ext hw'.ext (by simp)) (by simp only [maxLen]; omega) (by omega) (fun v8 hv8 => ?_)
  refine RW.assign rfl rfl ?_
  refine RW.nil (EX.seq (CW.seq (CW.seq ?_)))
  -- mq: region
  refine CW.formOwn (v := v8) Has.head (fun A8 c8 hv80 hcap8 hmax8 hlen8 hg8 => ?_)
  subst hv80
  rw [Nat.zero_add] at *
  refine CW.region ?_
  refine RW.move rfl rfl ?_
  refine RW.call rfl ca15 rfl (fun w' _ => fits_c w' _) ?_
  refine RW.not_ rfl rfl ?_
  refine RW.nil (EX.seq ?_)
  -- mq: cond
  refine CW.condF rfl ((by simp; omega)) ?_
  refine CW.ownNil 31 2 ?_
  refine CW.skip (EX.seq (CW.seq (CW.region ?_)))
  refine RW.assign rfl rfl ?_
  refine RW.nil (EX.seq (CW.seq (CW.seq ?_)))
  -- mq: region
  refine CW.region ?_
  refine RW.move rfl rfl ?_
  -- mq: at
  refine RW.callK rfl ca6 rfl (fun w' hw' => Lines_c w' _ A rows.length c rows (hr.ext hw'.ext (by simp)) (by omega)) (fun w0 w1 A29 n29 c29 hw0 he01 hw1 hlt hrd29 => ?_)
  have hm29 := hrd29.len
  have hll := linesL_length rows rows.length
  refine RW.lenSl Try.underlying26 rfl rfl ?_
  refine RW.move rfl rfl ?_
  refine RW.nil (EX.seq (CW.block ?_))
  -- mq: loop
  have hbd8 : ∀ g, (Value.slice A8 m c8).ownBlock = some g → w.heap.size ≤ g := fun g hg => by
    rcases hv8 g hg with h | h
    · simp [Value.ownBlock] at h
    · exact h.1
  have hl0 : (l.map fun p => stF rows cols p [] 0 p) = l := by simp [stF]
  refine CW.loop (ι := ReSt) (fun s => [(0, .slice A rows.length c), (1, .int .i64 (cols : Int)), (2, .slice B m d), (8, .slice A8 m c8), (9, s.v9), (29, .slice A29 n29 c29), (30, .int .i64 (n29 : Int)), (31, .int .i64 (s.L1.length : Int))]) (fun s => SH s.wi (feet (chunksP s.v9 s.rs A8 m c8 (l.map fun p => stF rows cols p s.L1 0 p))) (chunksP s.v9 s.rs A8 m c8 (l.map fun p => stF rows cols p s.L1 0 p))) (ReOk w cols rows l A8 m c8 A29 n29 c29) (fun s => s.L2.length) ?_ ?_
  · refine fun w' hw' => ⟨⟨w', .slice none 0 0, [], [], linesL rows rows.length, 0⟩, ⟨(hw0.ext.trans0 he01).trans hw'.ext (fun x hx hlt2 => ?_), by simp, rfl, ?_, ?_, rfl, linesL_chain rows rows.length⟩, (by repeat (first | exact Sub.nil | refine Sub.cons (by rfl) ?_)), ?_⟩
    · rw [feet_cons, feet_cons, feet_nil, List.append_nil] at hx
      rcases List.mem_append.1 hx with h | h
      · simp [own, Value.ownBlock] at h
      · exact absurd (hbd8 x (Option.mem_toList.1 h)) (by omega)
    · refine ((hrd29.strong (by decide)).ext hw'.ext (fun k hk hk2 => ?_)).weak (fun k hk => ⟨Nat.le_trans hw0.ext.size hk.1, fun hk2 => ?_⟩)
      · have := hlt k hk2; omega
      · have := hlt k hk2; omega
    · intro g hg
      rw [feet_cons, feet_cons, feet_nil, List.append_nil] at hg
      rcases List.mem_append.1 hg with h | h
      · simp [own, Value.ownBlock] at h
      · exact hbd8 g (Option.mem_toList.1 h)
    · dsimp only
      rw [hl0]
      exact hw'.rebase
  · rintro ⟨wi, v9, rs, L1, L2, a⟩ hok
    obtain ⟨e1, nest, conts, lin, fresh, parts, hch⟩ := hok
    dsimp only at e1 nest conts lin fresh parts hch ⊢
    refine CW.formOwn (v := v9) Has.head (fun A9 c9 hv9 hcap9 hmax9 hlen9 hg9 => ?_)
    subst hv9
    have hrd := congrArg List.length conts
    simp only [List.length_map] at hrd
    have hpart := outF_part parts hc1
    generalize hS : feet (chunksP (.slice A9 rs.length c9) rs A8 m c8 (l.map fun p => stF rows cols p L1 0 p)) = S at *
    have hin : ∀ k, k < w.heap.size → k ∉ S := fun k hk hk2 => by have := fresh k hk2; omega
    have hr1 := hr.ext e1 (by simp)
    have hlp1 := hlp.ext e1 (by simp)
    have hplen := congrArg List.length parts
    rw [List.length_append] at hplen
    refine CW.seq (CW.region ?_)
    refine RW.lss rfl rfl rfl ?_
    refine RW.nil (EX.seq (CW.seq ?_))
    -- mq: cond
    first | refine CW.condD rfl (fun hlt31 => ?_) (fun hlt31 => ?_) | refine CW.cond rfl (fun hlt31 => ?_) (fun hlt31 => ?_)
    · skip
      cases L2 with
      | nil => simp at hplen; omega
      | cons ln L2 =>
      have hx : (linesL rows rows.length)[L1.length]? = some ln := by rw [parts]; simp
      obtain ⟨e, rfl, hae, hen, _, _, hch'⟩ := chainE_step hch
      obtain ⟨bd, hB, hbd, hxc⟩ := lin.at_ hx
      have hcapn := hr.cap'
      refine CW.skip (EX.seq (CW.seq (CW.block (CW.seq (CW.region ?_)))))
      refine RW.ixAddr (q := L1.length) sl26 rfl rfl rfl (by first | rfl | assumption) (by omega) (by omega) ?_
      refine RW.loadA ag28 rfl rfl (rfl) (fun w' hw' j u hj => hw'.base_cell (hxc j u hj) (by simpa [block_add] using hbd.2)) ?_
      refine RW.allocA ag28 rfl (fun g11 hg11 hf11 => ?_)
      refine RW.storeA ag28 rfl rfl (by first | exact Upd.head | exact Upd.tail Upd.head | exact Upd.tail (Upd.tail Upd.head) | exact Upd.tail (Upd.tail (Upd.tail Upd.head)) | exact Upd.tail (Upd.tail (Upd.tail (Upd.tail Upd.head))) | exact Upd.tail (Upd.tail (Upd.tail (Upd.tail (Upd.tail Upd.head)))) | exact Upd.tail (Upd.tail (Upd.tail (Upd.tail (Upd.tail (Upd.tail Upd.head)))))) (by first | rfl | exact Enc.len _ _) (by repeat (first | exact Ones.nil | exact Enc.ones _ _ | refine Ones.cons rfl ?_)) (by first | exact Nat.le_of_ble_eq_true rfl | (simp only [Enc.len]; decide)) ?_
      refine RW.nil (EX.seq (CW.seq ?_))
      -- mq: region
      refine CW.region ?_
      refine RW.move rfl rfl ?_
      refine RW.ixArr (q := 0) Try.underlying28 ar28 rfl rfl rfl (by omega) (by omega) ?_
      refine RW.load1 sc3 rfl rfl (fun w' hw' => by rw [Addr.add_lit]; exact hw'.blk_cell Has.head rfl) ?_
      refine RW.ixArr (q := 1) Try.underlying28 ar28 rfl rfl rfl (by omega) (by omega) ?_
      refine RW.load1 sc3 rfl rfl (fun w' hw' => by rw [Addr.add_lit]; exact hw'.blk_cell Has.head rfl) ?_
      -- mq: at
      have hseg : segOld rows ((a : Int), (e : Int)) = (rows.take e).drop a := by simp [segOld]
      have hcut := hr1.cut (p := a) (q := e) (by omega) hen
      rw [← hseg] at hcut
      refine RW.sliceSl a e sl22 rfl rfl (.inl ⟨_, _, rfl, rfl, rfl⟩) (.inl ⟨_, _, rfl, rfl, rfl⟩) (by omega) (by omega) ?_
      generalize hAo : (if c = a then A else A.map (·.add (a * 2))) = Ao at hcut ⊢
      have hsegs := sumLen_seg rows ((a : Int), (e : Int))
      refine RW.assign rfl rfl ?_
      refine RW.nil (EX.seq (CW.seq (CW.region ?_)))
      refine RW.move rfl rfl ?_
      -- mq: op 1: ('Op.call', ('Call.mk', ('Callee.value', ('Operand.func', '18')), ('arr', ('Operand.tmp', '41')), ('arr', '22'))) -> slot 42 ("flow.go:162")
      refine RW.callK rfl ca18 rfl (fun w' hw' => Flow_c w' _ Ao (e - a) (c - a) _ (hcut.ext hw'.ext (fun k hk => hin k hk.2)) (by omega) (by omega)) (fun w2 w3 A4 n4 c4 hw2 he23 hw3 hlt3 hrd4 => ?_)
      have hm4 := hrd4.len
      have hfl : (flowF (segOld rows ((a : Int), (e : Int)))).length ≤ 600 := hfl0 _ (by rw [parts]; simp)
      refine RW.move rfl rfl ?_
      -- mq: op 3: ('Op.call', ('Call.mk', ('Callee.value', ('Operand.func', '17')), ('arr', ('Operand.tmp', '42'), ('Operand.tmp', '43')), ('arr', '29', '3'))) -> slot 44 ("flow.go:162")
      refine RW.callA (R := fun w0 => IsRows (segF rows cols ((a : Int), (e : Int))) w0) rfl ca17 rfl (fun w' hw' => (Split_c w' _ A4 n4 c4 _ cols (hrd4.ext hw'.ext (fun k hk hk2 => by have := hlt3 k hk2; omega)) (by omega) (by omega) (by omega)).mono (fun e w'' h => h.toA)) ?_
      rintro w4 w5 v hw4 he45 hw5 hlt5 ⟨A5, n5, c5, rfl, hrd5⟩
      have hm5 := hrd5.len
      have hspl := splitF_le (flowF (segOld rows ((a : Int), (e : Int)))) cols hc1
      have hsegF : segF rows cols ((a : Int), (e : Int)) = splitF (flowF (segOld rows ((a : Int), (e : Int)))) cols := rfl
      rw [← hsegF] at hspl
      have hseglen : sumLen (segF rows cols ((a : Int), (e : Int))) ≤ 1000000 := by
        rw [hspl.2]
        calc _ ≤ 700 * 1000 := Nat.mul_le_mul (by omega) hc2
          _ ≤ 1000000 := by decide
      have hft : feet (blk g11 (splice [Value.int IntKind.i64 0, Value.int IntKind.i64 0] 0 (EPair.enc ((a : Int), (e : Int)))) 28 :: chunksP (.slice A9 rs.length c9) rs A8 m c8 (l.map fun p => stF rows cols p L1 0 p)) = g11 :: S := by rw [feet_cons, hS]; rfl
      have hsub : ∀ x ∈ feet (blk g11 (splice [Value.int IntKind.i64 0, Value.int IntKind.i64 0] 0 (EPair.enc ((a : Int), (e : Int)))) 28 :: chunksP (.slice A9 rs.length c9) rs A8 m c8 (l.map fun p => stF rows cols p L1 0 p)), x < wi.heap.size → x ∈ S := fun x hx hlt => by
        rw [hft] at hx
        rcases List.mem_cons.1 hx with rfl | h
        · omega
        · exact h
      have hin2 : ∀ k, k < w.heap.size → k ∉ feet (blk g11 (splice [Value.int IntKind.i64 0, Value.int IntKind.i64 0] 0 (EPair.enc ((a : Int), (e : Int)))) 28 :: chunksP (.slice A9 rs.length c9) rs A8 m c8 (l.map fun p => stF rows cols p L1 0 p)) := fun k hk hk2 => hin k hk (hsub k hk2 (Nat.lt_of_lt_of_le hk e1.size))
      have he15 : Ext S wi w5 := ((hw2.ext.trans0 he23).trans hw4.ext hsub).trans0 he45
      have hcut5 := hcut.ext he15 (fun k hk => hin k hk.2)
      refine RW.assign rfl rfl ?_
      refine RW.nil (EX.seq (CW.seq (CW.region ?_)))
      refine RW.move rfl rfl ?_
      -- mq: op 1: ('Op.call', ('Call.mk', ('Callee.value', ('Operand.func', '19')), ('arr', ('Operand.tmp', '45')), ('arr', '22'))) -> slot 46 ("flow.go:163")
      refine RW.callK rfl ca19 rfl (fun w' hw' => sums_c w' _ Ao (e - a) (c - a) _ (hcut5.ext hw'.ext (fun k hk => hin2 k hk.2)) (by omega) (by omega)) (fun w6 w7 A6 n6 c6 hw6 he67 hw7 hlt7 hrd6 => ?_)
      refine RW.move rfl rfl ?_
      -- mq: op 3: ('Op.call', ('Call.mk', ('Callee.value', ('Operand.func', '19')), ('arr', ('Operand.tmp', '47')), ('arr', '22'))) -> slot 48 ("flow.go:163")
      refine RW.callK rfl ca19 rfl (fun w' hw' => sums_c w' _ A5 n5 c5 _ (((hrd5.ext hw6.ext (fun k hk hk2 => by have := hlt5 k hk2; omega)).ext he67 (by simp)).ext hw'.ext (fun k hk hk2 => by have := hlt5 k hk2; omega)) (by omega) (by omega)) (fun w8 w9 A7 n7 c7 hw8 he89 hw9 hlt9 hrd7 => ?_)
      have he19 : Ext S wi w9 := ((((he15.trans hw6.ext hsub).trans0 he67).trans hw8.ext hsub).trans0 he89)
      have hrd5' := ((hrd5.ext hw6.ext (fun k hk hk2 => by have := hlt5 k hk2; omega)).ext he67 (by simp)).ext (hw8.ext.trans0 he89) (fun k hk hk2 => by have := hlt5 k hk2; omega)
      have hrd6' := hrd6.ext (hw8.ext.trans0 he89) (fun k hk hk2 => by have := hlt7 k hk2; omega)
      have hlp9 := hlp1.ext he19 (fun k hk => hin k hk.2)
      have hm8 := hcut.len
      have hm6 := hrd6.len
      have hm7 := hrd7.len
      rw [sumsL_length] at hm6 hm7
      refine RW.assign rfl rfl ?_
      refine RW.assign rfl rfl ?_
      refine RW.nil (EX.seq (CW.seq (CW.seq (CW.region ?_))))
      refine RW.move rfl rfl ?_
      refine RW.lenSl Try.underlying39 rfl rfl ?_
      refine RW.move rfl rfl ?_
      refine RW.nil (EX.seq (CW.block ?_))
      -- mq: loop
      refine CW.loop (ι := Nat) (fun i => [(0, .slice A rows.length c), (1, .int .i64 (cols : Int)), (2, .slice B m d), (8, .slice A8 m c8), (9, .slice A9 rs.length c9), (11, .pointer (some ⟨g11, 0, none⟩)), (13, .slice A5 n5 c5), (14, .slice A6 n6 c6), (15, .slice A7 n7 c7), (29, .slice A29 n29 c29), (30, .int .i64 (n29 : Int)), (31, .int .i64 (L1.length : Int)), (49, .slice B m d), (50, .int .i64 (m : Int)), (51, .int .i64 (i : Int))]) (fun i => SH w9 (g11 :: S) [blk g11 [.int .i64 (a : Int), .int .i64 (e : Int)] 28, own 31 2 (.slice A9 rs.length c9) rs.length (ERow.all rs), own 44 2 (.slice A8 m c8) m (EPos.all ((l.take i).map (fun p => stF rows cols p (L1 ++ [((a : Int), (e : Int))]) 0 p) ++ (l.drop i).map (fun p => stF rows cols p L1 0 p)))]) (fun i => i ≤ m) (fun i => m - i) ?_ ?_
      · refine fun w' hw' => ⟨0, Nat.zero_le _, (by repeat (first | exact Sub.nil | refine Sub.cons (by rfl) ?_)), ?_⟩
        rw [hft] at hw'
        exact hw'
      · rintro i hi
        refine CW.seq (CW.region ?_)
        refine RW.lss rfl rfl rfl ?_
        refine RW.nil (EX.seq (CW.seq ?_))
        -- mq: cond
        first | refine CW.condD rfl (fun hlt51 => ?_) (fun hlt51 => ?_) | refine CW.cond rfl (fun hlt51 => ?_) (fun hlt51 => ?_)
        · skip
          obtain ⟨x, hxl⟩ : ∃ x, l[i]? = some x := ⟨l[i]'(by omega), List.getElem?_eq_getElem _⟩
          obtain ⟨xd, hBx, hxd, hxcell⟩ := hlp9.at_ hxl
          have hpx := hp x (List.mem_of_getElem? hxl)
          have hnx : ∀ k, k < w.heap.size → k ∉ g11 :: S := fun k hk => hft ▸ hin2 k hk
          obtain ⟨hst1, hst2, hst3⟩ := map_step (fun p => stF rows cols p (L1 ++ [((a : Int), (e : Int))]) 0 p) (fun p => stF rows cols p L1 0 p) hxl
          generalize hcur : (l.take i).map (fun p => stF rows cols p (L1 ++ [((a : Int), (e : Int))]) 0 p) ++ (l.drop i).map (fun p => stF rows cols p L1 0 p) = cur at hst1 hst2 hst3 ⊢
          have hupd : stF rows cols x (L1 ++ [((a : Int), (e : Int))]) 0 x = updP rows cols (outF rows cols L1).length ((a : Int), (e : Int)) x (stF rows cols x L1 0 x) := by rw [stF_snoc, Nat.zero_add]
          refine CW.skip (EX.seq (CW.seq (CW.block (CW.seq (CW.region ?_)))))
          refine RW.move rfl rfl ?_
          refine RW.ixAddr (q := i) sl39 rfl rfl rfl (by first | rfl | assumption) (by omega) (by omega) ?_
          refine RW.loadA ag44 rfl rfl (rfl) (fun w' hw' j u hj => hw'.base_cell (hxcell j u hj) (by rw [block_add, block_add]; exact hnx _ hxd.2)) ?_
          refine RW.allocA ag44 rfl (fun g17 hg17 hf17 => ?_)
          refine RW.assign rfl rfl ?_
          refine RW.storeA ag44 rfl rfl (by first | exact Upd.head | exact Upd.tail Upd.head | exact Upd.tail (Upd.tail Upd.head) | exact Upd.tail (Upd.tail (Upd.tail Upd.head)) | exact Upd.tail (Upd.tail (Upd.tail (Upd.tail Upd.head))) | exact Upd.tail (Upd.tail (Upd.tail (Upd.tail (Upd.tail Upd.head)))) | exact Upd.tail (Upd.tail (Upd.tail (Upd.tail (Upd.tail (Upd.tail Upd.head)))))) (by first | rfl | exact Enc.len _ _) (by repeat (first | exact Ones.nil | exact Enc.ones _ _ | refine Ones.cons rfl ?_)) (by first | exact Nat.le_of_ble_eq_true rfl | (simp only [Enc.len]; decide)) ?_
          refine RW.nil (EX.seq (CW.seq (CW.seq (CW.region ?_))))
          refine RW.fieldB fl44x0 rfl rfl ?_
          refine RW.loadB1 sc3 rfl rfl (by first | exact Has.head | exact Has.tail Has.head | exact Has.tail (Has.tail Has.head) | exact Has.tail (Has.tail (Has.tail Has.head)) | exact Has.tail (Has.tail (Has.tail (Has.tail Has.head))) | exact Has.tail (Has.tail (Has.tail (Has.tail (Has.tail Has.head)))) | exact Has.tail (Has.tail (Has.tail (Has.tail (Has.tail (Has.tail Has.head)))))) rfl ?_
          refine RW.max2 rfl rfl rfl ?_
          refine RW.fieldB fl44x0 rfl rfl ?_
          refine RW.store1 sc3 rfl rfl (by first | exact Upd.head | exact Upd.tail Upd.head | exact Upd.tail (Upd.tail Upd.head) | exact Upd.tail (Upd.tail (Upd.tail Upd.head)) | exact Upd.tail (Upd.tail (Upd.tail (Upd.tail Upd.head))) | exact Upd.tail (Upd.tail (Upd.tail (Upd.tail (Upd.tail Upd.head)))) | exact Upd.tail (Upd.tail (Upd.tail (Upd.tail (Upd.tail (Upd.tail Upd.head)))))) rfl (by first | exact Nat.le_of_ble_eq_true rfl | simp) ?_
          refine RW.nil (EX.seq ?_)
          -- mq: seq
          refine CW.join ([(0, .slice A rows.length c), (1, .int .i64 (cols : Int)), (2, .slice B m d), (8, .slice A8 m c8), (9, .slice A9 rs.length c9), (11, .pointer (some ⟨g11, 0, none⟩)), (13, .slice A5 n5 c5), (14, .slice A6 n6 c6), (15, .slice A7 n7 c7), (16, .int .i64 (i : Int)), (17, .pointer (some ⟨g17, 0, none⟩)), (29, .slice A29 n29 c29), (30, .int .i64 (n29 : Int)), (31, .int .i64 (L1.length : Int)), (49, .slice B m d), (50, .int .i64 (m : Int)), (51, .int .i64 (i : Int))]) (SH w9 (g11 :: S) [blk g17 [.int .i64 (rowP x), .int .i64 (colP x)] 44, blk g11 [.int .i64 (a : Int), .int .i64 (e : Int)] 28, own 31 2 (.slice A9 rs.length c9) rs.length (ERow.all rs), own 44 2 (.slice A8 m c8) m (EPos.all cur)]) ?_ ?_
          · skip
            refine CW.seq (CW.region ?_)
            refine RW.move rfl rfl ?_
            refine RW.move rfl rfl ?_
            refine RW.ixAddr (q := i) sl39 rfl rfl rfl (by first | rfl | assumption) (by omega) (by omega) ?_
            refine RW.fieldP fl44x0 rfl rfl ?_
            refine RW.load1 sc3 rfl rfl (fun w' hw' => hw'.base_cell (hxcell 0 _ rfl) (by rw [block_add, block_add]; exact hnx _ hxd.2)) ?_
            refine RW.lss rfl rfl rfl ?_
            refine RW.nil (EX.seq ?_)
            -- mq: cond
            first | refine CW.condD rfl (fun h65 => ?_) (fun h65 => ?_) | refine CW.cond rfl (fun h65 => ?_) (fun h65 => ?_)
            · skip
              refine CW.region ?_
              refine RW.fieldB fl44x1 rfl rfl ?_
              refine RW.store1 sc3 rfl rfl (by first | exact Upd.head | exact Upd.tail Upd.head | exact Upd.tail (Upd.tail Upd.head) | exact Upd.tail (Upd.tail (Upd.tail Upd.head)) | exact Upd.tail (Upd.tail (Upd.tail (Upd.tail Upd.head))) | exact Upd.tail (Upd.tail (Upd.tail (Upd.tail (Upd.tail Upd.head)))) | exact Upd.tail (Upd.tail (Upd.tail (Upd.tail (Upd.tail (Upd.tail Upd.head)))))) rfl (by first | exact Nat.le_of_ble_eq_true rfl | simp) ?_
              refine RW.nil ?_
              -- mq: joinend
              refine EX.jn (by repeat (first | exact Sub.nil | refine Sub.cons (by rfl) ?_)) (fun w' hw' => ?_)
              rw [rowP, colP, if_pos h65]
              exact hw'
            · skip
              refine CW.skip ?_
              -- mq: joinend
              refine EX.jn (by repeat (first | exact Sub.nil | refine Sub.cons (by rfl) ?_)) (fun w' hw' => ?_)
              rw [rowP, colP, if_neg h65]
              exact hw'
          · skip
            refine EX.seq (CW.seq (CW.seq (CW.region ?_)))
            refine RW.fieldB fl44x0 rfl rfl ?_
            refine RW.loadB1 sc3 rfl rfl (by first | exact Has.head | exact Has.tail Has.head | exact Has.tail (Has.tail Has.head) | exact Has.tail (Has.tail (Has.tail Has.head)) | exact Has.tail (Has.tail (Has.tail (Has.tail Has.head))) | exact Has.tail (Has.tail (Has.tail (Has.tail (Has.tail Has.head)))) | exact Has.tail (Has.tail (Has.tail (Has.tail (Has.tail (Has.tail Has.head)))))) rfl ?_
            refine RW.ixArr (q := 0) Try.underlying28 ar28 rfl rfl rfl (by omega) (by omega) ?_
            refine RW.load1 sc3 rfl rfl (fun w' hw' => by rw [Addr.add_lit]; exact hw'.blk_cell (Has.tail Has.head) rfl) ?_
            refine RW.lss rfl rfl rfl ?_
            refine RW.move rfl rfl ?_
            -- mq: guard slot 72
            refine RW.casesB 72 rfl (fun h72 => ?_) (fun h72 => ?_)
            · skip
              have h72p := of_decide_eq_true h72
              refine RW.guardF rfl rfl rfl h72 ?_
              refine RW.guardF rfl rfl rfl h72 ?_
              refine RW.guardF rfl rfl rfl h72 ?_
              refine RW.guardF rfl rfl rfl h72 ?_
              refine RW.guardF rfl rfl rfl h72 ?_
              refine RW.pickB rfl rfl h72 rfl ?_
              refine RW.nil (EX.seq ?_)
              -- mq: cond
              refine CW.condT rfl (rfl) ?_
              refine CW.exit (EX.seqE (EX.bkE (EX.seq (CW.region ?_))))
              refine RW.add rfl rfl rfl (wrap64 (by omega) (by omega)) ?_
              refine RW.move rfl rfl ?_
              refine RW.nil ?_
              -- mq: loopend
              have hfg : stF rows cols x (L1 ++ [((a : Int), (e : Int))]) 0 x = stF rows cols x L1 0 x := by rw [hupd, updP, if_neg (by omega)]
              refine EX.lpN (i + 1) (by omega) (by omega) (by repeat (first | exact Sub.nil | refine Sub.cons (by rfl) ?_)) (fun w' hw' => ?_)
              rw [← hst2 hfg]
              exact hw'.rem Rem.head
            · skip
              have h72p := of_decide_eq_false h72
              refine RW.guardT rfl rfl h72 ?_
              refine RW.fieldB fl44x0 rfl rfl ?_
              refine RW.guardT rfl rfl h72 ?_
              refine RW.loadB1 sc3 rfl rfl (by first | exact Has.head | exact Has.tail Has.head | exact Has.tail (Has.tail Has.head) | exact Has.tail (Has.tail (Has.tail Has.head)) | exact Has.tail (Has.tail (Has.tail (Has.tail Has.head))) | exact Has.tail (Has.tail (Has.tail (Has.tail (Has.tail Has.head)))) | exact Has.tail (Has.tail (Has.tail (Has.tail (Has.tail (Has.tail Has.head)))))) rfl ?_
              refine RW.guardT rfl rfl h72 ?_
              refine RW.ixArr (q := 1) Try.underlying28 ar28 rfl rfl rfl (by omega) (by omega) ?_
              refine RW.guardT rfl rfl h72 ?_
              refine RW.load1 sc3 rfl rfl (fun w' hw' => by rw [Addr.add_lit]; exact hw'.blk_cell (Has.tail Has.head) rfl) ?_
              refine RW.guardT rfl rfl h72 ?_
              refine RW.geq rfl rfl rfl ?_
              refine RW.pickC rfl rfl h72 rfl ?_
              refine RW.nil (EX.seq ?_)
              -- mq: cond
              first | refine CW.condD rfl (fun h78 => ?_) (fun h78 => ?_) | refine CW.cond rfl (fun h78 => ?_) (fun h78 => ?_)
              · skip
                refine CW.exit (EX.seqE (EX.bkE (EX.seq (CW.region ?_))))
                refine RW.add rfl rfl rfl (wrap64 (by omega) (by omega)) ?_
                refine RW.move rfl rfl ?_
                refine RW.nil ?_
                -- mq: loopend
                have hfg : stF rows cols x (L1 ++ [((a : Int), (e : Int))]) 0 x = stF rows cols x L1 0 x := by rw [hupd, updP, if_neg (by omega)]
                refine EX.lpN (i + 1) (by omega) (by omega) (by repeat (first | exact Sub.nil | refine Sub.cons (by rfl) ?_)) (fun w' hw' => ?_)
                rw [← hst2 hfg]
                exact hw'.rem Rem.head
              · skip
                have hoff := offR_bd (segOld rows ((a : Int), (e : Int))) ⟨rowP x - (a : Int), colP x⟩
                have hpl := placeR_bd (segF rows cols ((a : Int), (e : Int))) (offR (segOld rows ((a : Int), (e : Int))) ⟨rowP x - (a : Int), colP x⟩) (by omega)
                obtain ⟨g8, rfl⟩ := hg8 (by omega)
                refine CW.skip (EX.seq (CW.seq (CW.region ?_)))
                refine RW.fieldB fl44x0 rfl rfl ?_
                refine RW.loadB1 sc3 rfl rfl (by first | exact Has.head | exact Has.tail Has.head | exact Has.tail (Has.tail Has.head) | exact Has.tail (Has.tail (Has.tail Has.head)) | exact Has.tail (Has.tail (Has.tail (Has.tail Has.head))) | exact Has.tail (Has.tail (Has.tail (Has.tail (Has.tail Has.head)))) | exact Has.tail (Has.tail (Has.tail (Has.tail (Has.tail (Has.tail Has.head)))))) rfl ?_
                refine RW.ixArr (q := 0) Try.underlying28 ar28 rfl rfl rfl (by omega) (by omega) ?_
                refine RW.load1 sc3 rfl rfl (fun w' hw' => by rw [Addr.add_lit]; exact hw'.blk_cell (Has.tail Has.head) rfl) ?_
                refine RW.sub_ rfl rfl rfl (wrap64 (by omega) (by omega)) ?_
                refine RW.fieldB fl44x0 rfl rfl ?_
                refine RW.store1 sc3 rfl rfl (by first | exact Upd.head | exact Upd.tail Upd.head | exact Upd.tail (Upd.tail Upd.head) | exact Upd.tail (Upd.tail (Upd.tail Upd.head)) | exact Upd.tail (Upd.tail (Upd.tail (Upd.tail Upd.head))) | exact Upd.tail (Upd.tail (Upd.tail (Upd.tail (Upd.tail Upd.head)))) | exact Upd.tail (Upd.tail (Upd.tail (Upd.tail (Upd.tail (Upd.tail Upd.head)))))) rfl (by first | exact Nat.le_of_ble_eq_true rfl | simp) ?_
                refine RW.nil (EX.seq (CW.seq ?_))
                -- mq: region
                refine CW.region ?_
                refine RW.move rfl rfl ?_
                refine RW.move rfl rfl ?_
                refine RW.loadBA ag44 rfl rfl (by first | exact Has.head | exact Has.tail Has.head | exact Has.tail (Has.tail Has.head) | exact Has.tail (Has.tail (Has.tail Has.head)) | exact Has.tail (Has.tail (Has.tail (Has.tail Has.head))) | exact Has.tail (Has.tail (Has.tail (Has.tail (Has.tail Has.head)))) | exact Has.tail (Has.tail (Has.tail (Has.tail (Has.tail (Has.tail Has.head)))))) rfl rfl ?_
                -- mq: at
                refine RW.call rfl ca21 rfl (fun w' hw' => offset_c w' _ A6 n6 c6 _ (hrd6'.ext hw'.ext (fun k hk hk2 => by have := hlt7 k (hft.symm ▸ hk2); omega)) (rowP x - (a : Int)) (colP x) (by omega) (by omega)) ?_
                refine RW.call rfl ca20 rfl (fun w' hw' => place_c w' _ A7 n7 c7 _ (hrd7.ext hw'.ext (fun k hk hk2 => by have := hlt9 k (hft.symm ▸ hk2); omega)) _ (by omega) (by omega) hseglen) ?_
                refine RW.storeA ag44 rfl rfl (by first | exact Upd.head | exact Upd.tail Upd.head | exact Upd.tail (Upd.tail Upd.head) | exact Upd.tail (Upd.tail (Upd.tail Upd.head)) | exact Upd.tail (Upd.tail (Upd.tail (Upd.tail Upd.head))) | exact Upd.tail (Upd.tail (Upd.tail (Upd.tail (Upd.tail Upd.head)))) | exact Upd.tail (Upd.tail (Upd.tail (Upd.tail (Upd.tail (Upd.tail Upd.head)))))) (by first | rfl | exact Enc.len _ _) (by repeat (first | exact Ones.nil | exact Enc.ones _ _ | refine Ones.cons rfl ?_)) (by first | exact Nat.le_of_ble_eq_true rfl | (simp only [Enc.len]; decide)) ?_
                refine RW.nil (EX.seq ?_)
                -- mq: region
                generalize hq : placeR (segF rows cols ((a : Int), (e : Int))) (offR (segOld rows ((a : Int), (e : Int))) ⟨rowP x - (a : Int), colP x⟩) = q at hpl ⊢
                have hcurl : cur.length = m := by rw [← hcur]; simp; omega
                refine CW.region ?_
                refine RW.move rfl rfl ?_
                refine RW.move rfl rfl ?_
                refine RW.fieldB fl44x0 rfl rfl ?_
                refine RW.loadB1 sc3 rfl rfl (by first | exact Has.head | exact Has.tail Has.head | exact Has.tail (Has.tail Has.head) | exact Has.tail (Has.tail (Has.tail Has.head)) | exact Has.tail (Has.tail (Has.tail (Has.tail Has.head))) | exact Has.tail (Has.tail (Has.tail (Has.tail (Has.tail Has.head)))) | exact Has.tail (Has.tail (Has.tail (Has.tail (Has.tail (Has.tail Has.head)))))) rfl ?_
                refine RW.move rfl rfl ?_
                refine RW.lenSl Try.underlying22 rfl rfl ?_
                refine RW.add rfl rfl rfl (wrap64 (by omega) (by omega)) ?_
                refine RW.fieldB fl44x1 rfl rfl ?_
                refine RW.loadB1 sc3 rfl rfl (by first | exact Has.head | exact Has.tail Has.head | exact Has.tail (Has.tail Has.head) | exact Has.tail (Has.tail (Has.tail Has.head)) | exact Has.tail (Has.tail (Has.tail (Has.tail Has.head))) | exact Has.tail (Has.tail (Has.tail (Has.tail (Has.tail Has.head)))) | exact Has.tail (Has.tail (Has.tail (Has.tail (Has.tail (Has.tail Has.head)))))) rfl ?_
                refine RW.buildS bu44 rfl rfl rfl ?_
                refine RW.ixAddr (q := i) sl39 rfl rfl rfl (by first | rfl | assumption) (by omega) (by omega) ?_
                refine RW.storeOwnA (o := i * 2) ag44 rfl rfl (by first | exact Upd.head | exact Upd.tail Upd.head | exact Upd.tail (Upd.tail Upd.head) | exact Upd.tail (Upd.tail (Upd.tail Upd.head)) | exact Upd.tail (Upd.tail (Upd.tail (Upd.tail Upd.head))) | exact Upd.tail (Upd.tail (Upd.tail (Upd.tail (Upd.tail Upd.head)))) | exact Upd.tail (Upd.tail (Upd.tail (Upd.tail (Upd.tail (Upd.tail Upd.head)))))) (by simp [Addr.add_lit]) rfl (EPos.ones ⟨q.row + (rs.length : Int), q.col⟩) (by rw [EPos.all_length]; show i * 2 + 2 ≤ _ * 2; omega) ?_
                refine RW.nil (EX.bkN (EX.seq (CW.region ?_)))
                refine RW.add rfl rfl rfl (wrap64 (by omega) (by omega)) ?_
                refine RW.move rfl rfl ?_
                refine RW.nil ?_
                -- mq: loopend
                refine EX.lpN (i + 1) (by omega) (by omega) (by repeat (first | exact Sub.nil | refine Sub.cons (by rfl) ?_)) (fun w' hw' => ?_)
                have hnew : stF rows cols x (L1 ++ [((a : Int), (e : Int))]) 0 x = ⟨q.row + (rs.length : Int), q.col⟩ := by
                  rw [hupd, updP, if_pos (by constructor <;> (dsimp only; omega)), newPos, hq, hrd]
                rw [hnew] at hst1
                have hsp := EPos.splice_all (L := cur) (i := i) ⟨q.row + (rs.length : Int), q.col⟩ (by omega)
                rw [hst1] at hsp
                rw [← hsp]
                exact hw'.rem Rem.head
        · skip
          have him : i = m := by omega
          obtain ⟨rs5, g1, g2, g3⟩ := hrd5'.prf
          have hl5 := g1.len
          refine CW.exit (EX.seqE (EX.lpE (EX.bkE (EX.seq ?_))))
          -- mq: region
          refine CW.region ?_
          refine RW.move rfl rfl ?_
          refine RW.move rfl rfl ?_
          -- mq: at
          refine RW.appendSl (E := ERow) (src := rs5) sl22 rfl rfl rfl (fun _ => by first | exact Upd.head | exact Upd.tail Upd.head | exact Upd.tail (Upd.tail Upd.head) | exact Upd.tail (Upd.tail (Upd.tail Upd.head)) | exact Upd.tail (Upd.tail (Upd.tail (Upd.tail Upd.head))) | exact Upd.tail (Upd.tail (Upd.tail (Upd.tail (Upd.tail Upd.head)))) | exact Upd.tail (Upd.tail (Upd.tail (Upd.tail (Upd.tail (Upd.tail Upd.head)))))) (fun w' hw' => g1.ext hw'.ext (fun k hk hk2 => by have := hlt5 k (hft.symm ▸ hk2); omega)) (by simp only [maxLen]; omega) (by omega) (fun v104 hv104 => ?_)
          refine RW.assign rfl rfl ?_
          refine RW.nil (EX.bkN (EX.seq (CW.region ?_)))
          refine RW.add rfl rfl rfl (wrap64 (by omega) (by omega)) ?_
          refine RW.move rfl rfl ?_
          refine RW.nil ?_
          -- mq: loopend
          refine EX.lpW (fun w' hw' => ?_)
          have hlist : (l.take i).map (fun p => stF rows cols p (L1 ++ [((a : Int), (e : Int))]) 0 p) ++ (l.drop i).map (fun p => stF rows cols p L1 0 p) = l.map (fun p => stF rows cols p (L1 ++ [((a : Int), (e : Int))]) 0 p) := by
            rw [List.take_of_length_le (by omega), List.drop_eq_nil_of_le (by omega)]
            simp
          rw [hlist] at hw'
          have hw2' := hw2
          have hw2 := hw'.rem Rem.head
          have hnb : ∀ k, k ∈ feet (chunksP v104 (rs ++ rs5) A8 m c8 (l.map fun p => stF rows cols p (L1 ++ [((a : Int), (e : Int))]) 0 p)) → k ∈ S ∨ w9.heap.size ≤ k := fun k hk => by
            rw [feet_cons, feet_cons, feet_nil, List.append_nil] at hk
            rcases List.mem_append.1 hk with h | h
            · rcases hv104 k (Option.mem_toList.1 h) with h | h
              · left; rw [← hS]; simp [feet, own, h]
              · exact .inr h.1
            · left; rw [← hS]; simp only [feet_cons, feet_nil, List.append_nil]; exact List.mem_append.2 (.inr h)
          have hsub9 : ∀ x ∈ g11 :: S, x < wi.heap.size → x ∈ S := fun x hx hlt => hsub x (hft.symm ▸ hx) hlt
          have heS : Ext S wi w' := he19.trans hw'.ext hsub9
          have hsz9 := he19.size
          have hsz4 : wi.heap.size ≤ w4.heap.size := Nat.le_trans (hw2'.ext.trans0 he23).size hw4.ext.size
          have hsz49 : w4.heap.size ≤ w9.heap.size := Nat.le_trans (Nat.le_trans he45.size (Nat.le_trans hw6.ext.size he67.size)) (Nat.le_trans hw8.ext.size he89.size)
          have e1s := e1.size
          have hout : outF rows cols (L1 ++ [((a : Int), (e : Int))]) = outF rows cols L1 ++ segF rows cols ((a : Int), (e : Int)) := outF_snoc _ _ _ _
          refine ⟨⟨w', v104, rs ++ rs5, L1 ++ [((a : Int), (e : Int))], L2, e⟩, ⟨e1.trans heS (fun x hx hlt => absurd (fresh x hx) (by omega)), fun k r row hk hrow => ?_, ?_, ?_, fun g hg => ?_, by rw [parts, List.append_assoc]; rfl, hch'⟩, by simp, Sub.cons (by rfl) (Sub.cons (by rfl) (Sub.cons (by rfl) (Sub.cons (by rfl) (Sub.cons (by rfl) (Sub.cons (by rfl) (Sub.cons (by rfl) (Sub.cons (by simp [look]) Sub.nil))))))), ?_⟩
          · have hk : (rs ++ rs5)[k]? = some r := hk
            rw [hout] at hrow
            by_cases hkl : k < rs.length
            · rw [List.getElem?_append_left hkl] at hk
              rw [List.getElem?_append_left (by omega)] at hrow
              exact (((nest k r row hk hrow).strong (by decide)).ext heS (fun k hk => hk.1.2)).weak (fun k hk => ⟨hk.1.1, fun hk2 => by
                rcases hnb k hk2 with h | h
                · exact hk.1.2 h
                · have := hk.2; omega⟩)
            · rw [List.getElem?_append_right (by omega)] at hk
              rw [List.getElem?_append_right (by omega), ← hrd] at hrow
              exact (((g3 _ r row hk hrow).strong (by decide)).ext hw'.ext (fun k hk hk2 => by have := hlt5 k (hft.symm ▸ hk2); have := hk.1; omega)).weak (fun k hk => ⟨by have := hk.1; omega, fun hk2 => by
                rcases hnb k hk2 with h | h
                · have := hlt5 k (hft.symm ▸ List.mem_cons_of_mem _ h); have := hk.1; omega
                · have := hk.2; omega⟩)
          · rw [hout, List.map_append, List.map_append, conts, g2]
          · exact ((lin.strong (by decide)).ext heS (fun k hk => hk.1.2)).weak (fun k hk => ⟨hk.1.1, fun hk2 => by
              rcases hnb k hk2 with h | h
              · exact hk.1.2 h
              · have := hk.2; omega⟩)
          · rcases hnb g hg with h | h
            · exact fresh g h
            · omega
          · have hw3' : SH w9 (g11 :: S) (chunksP v104 (rs ++ rs5) A8 m c8 (l.map fun p => stF rows cols p (L1 ++ [((a : Int), (e : Int))]) 0 p)) w' := by
              unfold chunksP
              rw [List.length_append, Enc.all_append, hl5]
              exact hw2
            exact hw3'.rebase
    · skip
      have hL2 : L2 = [] := List.eq_nil_of_length_eq_zero (by omega)
      subst hL2
      rw [List.append_nil] at parts
      subst parts
      refine CW.exit (EX.seqE (EX.lpE (EX.bkE (EX.seq (CW.seq (CW.seq (CW.region ?_)))))))
      refine RW.move rfl rfl ?_
      refine RW.lenSl Try.underlying39 rfl rfl ?_
      refine RW.move rfl rfl ?_
      refine RW.nil (EX.seq (CW.block ?_))
      -- mq: loop
      refine CW.loop (ι := Nat) (fun i => [(0, .slice A rows.length c), (2, .slice B m d), (8, .slice A8 m c8), (9, .slice A9 rs.length c9), (106, .slice B m d), (107, .int .i64 (m : Int)), (108, .int .i64 (i : Int))]) (fun i => SH wi S [own 31 2 (.slice A9 rs.length c9) rs.length (ERow.all rs), own 44 2 (.slice A8 m c8) m (EPos.all ((l.take i).map (posF rows cols) ++ (l.drop i).map (fun p => stF rows cols p (linesL rows rows.length) 0 p)))]) (fun i => i ≤ m) (fun i => m - i) ?_ ?_
      · exact fun w' hw' => ⟨0, Nat.zero_le _, (by repeat (first | exact Sub.nil | refine Sub.cons (by rfl) ?_)), hw'⟩
      · rintro i hi
        refine CW.seq (CW.region ?_)
        refine RW.lss rfl rfl rfl ?_
        refine RW.nil (EX.seq (CW.seq ?_))
        -- mq: cond
        first | refine CW.condD rfl (fun hlti => ?_) (fun hlti => ?_) | refine CW.cond rfl (fun hlti => ?_) (fun hlti => ?_)
        · skip
          obtain ⟨x, hxl⟩ : ∃ x, l[i]? = some x := ⟨l[i]'(by omega), List.getElem?_eq_getElem _⟩
          obtain ⟨xd, hBx, hxd, hxcell⟩ := hlp1.at_ hxl
          obtain ⟨hst1, hst2, hst3⟩ := map_step (posF rows cols) (fun p => stF rows cols p (linesL rows rows.length) 0 p) hxl
          generalize hcur : (l.take i).map (posF rows cols) ++ (l.drop i).map (fun p => stF rows cols p (linesL rows rows.length) 0 p) = cur at hst1 hst2 hst3 ⊢
          have hcurl : cur.length = m := by rw [← hcur]; simp; omega
          obtain ⟨g8, rfl⟩ := hg8 (by omega)
          refine CW.skip (EX.seq (CW.seq (CW.block (CW.seq (CW.region ?_)))))
          refine RW.move rfl rfl ?_
          refine RW.ixAddr (q := i) sl39 rfl rfl rfl (by first | rfl | assumption) (by omega) (by omega) ?_
          refine RW.loadA ag44 rfl rfl (rfl) (fun w' hw' j u hj => hw'.base_cell (hxcell j u hj) (by rw [block_add, block_add]; exact hin _ hxd.2)) ?_
          refine RW.allocA ag44 rfl (fun g19 hg19 hf19 => ?_)
          refine RW.assign rfl rfl ?_
          refine RW.storeA ag44 rfl rfl (by first | exact Upd.head | exact Upd.tail Upd.head | exact Upd.tail (Upd.tail Upd.head) | exact Upd.tail (Upd.tail (Upd.tail Upd.head)) | exact Upd.tail (Upd.tail (Upd.tail (Upd.tail Upd.head))) | exact Upd.tail (Upd.tail (Upd.tail (Upd.tail (Upd.tail Upd.head)))) | exact Upd.tail (Upd.tail (Upd.tail (Upd.tail (Upd.tail (Upd.tail Upd.head)))))) (by first | rfl | exact Enc.len _ _) (by repeat (first | exact Ones.nil | exact Enc.ones _ _ | refine Ones.cons rfl ?_)) (by first | exact Nat.le_of_ble_eq_true rfl | (simp only [Enc.len]; decide)) ?_
          refine RW.nil (EX.seq (CW.seq (CW.region ?_)))
          refine RW.fieldB fl44x0 rfl rfl ?_
          refine RW.loadB1 sc3 rfl rfl (by first | exact Has.head | exact Has.tail Has.head | exact Has.tail (Has.tail Has.head) | exact Has.tail (Has.tail (Has.tail Has.head)) | exact Has.tail (Has.tail (Has.tail (Has.tail Has.head))) | exact Has.tail (Has.tail (Has.tail (Has.tail (Has.tail Has.head)))) | exact Has.tail (Has.tail (Has.tail (Has.tail (Has.tail (Has.tail Has.head)))))) rfl ?_
          refine RW.move rfl rfl ?_
          refine RW.lenSl Try.underlying22 rfl rfl ?_
          refine RW.geq rfl rfl rfl ?_
          refine RW.move rfl rfl ?_
          -- mq: guard slot 118
          refine RW.casesB 118 rfl (fun h118 => ?_) (fun h118 => ?_)
          · skip
            have h118p := of_decide_eq_true h118
            refine RW.guardF rfl rfl rfl h118 ?_
            refine RW.guardF rfl rfl rfl h118 ?_
            refine RW.guardF rfl rfl rfl h118 ?_
            refine RW.pickB rfl rfl h118 rfl ?_
            refine RW.nil (EX.seq ?_)
            -- mq: cond
            refine CW.condT rfl (rfl) ?_
            refine CW.region ?_
            refine RW.move rfl rfl ?_
            refine RW.move rfl rfl ?_
            refine RW.move rfl rfl ?_
            refine RW.lenSl Try.underlying22 rfl rfl ?_
            refine RW.buildS bu44 rfl rfl rfl ?_
            refine RW.ixAddr (q := i) sl39 rfl rfl rfl (by first | rfl | assumption) (by omega) (by omega) ?_
            refine RW.storeOwnA (o := i * 2) ag44 rfl rfl (by first | exact Upd.head | exact Upd.tail Upd.head | exact Upd.tail (Upd.tail Upd.head) | exact Upd.tail (Upd.tail (Upd.tail Upd.head)) | exact Upd.tail (Upd.tail (Upd.tail (Upd.tail Upd.head))) | exact Upd.tail (Upd.tail (Upd.tail (Upd.tail (Upd.tail Upd.head)))) | exact Upd.tail (Upd.tail (Upd.tail (Upd.tail (Upd.tail (Upd.tail Upd.head)))))) (by simp [Addr.add_lit]) rfl (EPos.ones ⟨(rs.length : Int), 0⟩) (by rw [EPos.all_length]; show i * 2 + 2 ≤ _ * 2; omega) ?_
            refine RW.nil (EX.bkN (EX.seq (CW.region ?_)))
            refine RW.add rfl rfl rfl (wrap64 (by omega) (by omega)) ?_
            refine RW.move rfl rfl ?_
            refine RW.nil ?_
            -- mq: loopend
            refine EX.lpN (i + 1) (by omega) (by omega) (by repeat (first | exact Sub.nil | refine Sub.cons (by rfl) ?_)) (fun w' hw' => ?_)
            have hnew : posF rows cols x = ⟨(rs.length : Int), 0⟩ := by rw [posF, if_pos (.inl h118p), hrd]
            rw [hnew] at hst1
            have hsp := EPos.splice_all (L := cur) (i := i) ⟨(rs.length : Int), 0⟩ (by omega)
            rw [hst1] at hsp
            rw [← hsp]
            exact hw'.rem Rem.head
          · skip
            have h118p := of_decide_eq_false h118
            refine RW.guardT rfl rfl h118 ?_
            refine RW.move rfl rfl ?_
            refine RW.guardT rfl rfl h118 ?_
            refine RW.lenSl Try.underlying22 rfl rfl ?_
            refine RW.guardT rfl rfl h118 ?_
            refine RW.eqlI rfl rfl rfl ?_
            refine RW.pickC rfl rfl h118 rfl ?_
            refine RW.nil (EX.seq ?_)
            -- mq: cond
            first | refine CW.condD rfl (fun h121 => ?_) (fun h121 => ?_) | refine CW.cond rfl (fun h121 => ?_) (fun h121 => ?_)
            · skip
              refine CW.region ?_
              refine RW.move rfl rfl ?_
              refine RW.move rfl rfl ?_
              refine RW.move rfl rfl ?_
              refine RW.lenSl Try.underlying22 rfl rfl ?_
              refine RW.buildS bu44 rfl rfl rfl ?_
              refine RW.ixAddr (q := i) sl39 rfl rfl rfl (by first | rfl | assumption) (by omega) (by omega) ?_
              refine RW.storeOwnA (o := i * 2) ag44 rfl rfl (by first | exact Upd.head | exact Upd.tail Upd.head | exact Upd.tail (Upd.tail Upd.head) | exact Upd.tail (Upd.tail (Upd.tail Upd.head)) | exact Upd.tail (Upd.tail (Upd.tail (Upd.tail Upd.head))) | exact Upd.tail (Upd.tail (Upd.tail (Upd.tail (Upd.tail Upd.head)))) | exact Upd.tail (Upd.tail (Upd.tail (Upd.tail (Upd.tail (Upd.tail Upd.head)))))) (by simp [Addr.add_lit]) rfl (EPos.ones ⟨(rs.length : Int), 0⟩) (by rw [EPos.all_length]; show i * 2 + 2 ≤ _ * 2; omega) ?_
              refine RW.nil (EX.bkN (EX.seq (CW.region ?_)))
              refine RW.add rfl rfl rfl (wrap64 (by omega) (by omega)) ?_
              refine RW.move rfl rfl ?_
              refine RW.nil ?_
              -- mq: loopend
              refine EX.lpN (i + 1) (by omega) (by omega) (by repeat (first | exact Sub.nil | refine Sub.cons (by rfl) ?_)) (fun w' hw' => ?_)
              have hnew : posF rows cols x = ⟨(rs.length : Int), 0⟩ := by rw [posF, if_pos (.inr (by omega)), hrd]
              rw [hnew] at hst1
              have hsp := EPos.splice_all (L := cur) (i := i) ⟨(rs.length : Int), 0⟩ (by omega)
              rw [hst1] at hsp
              rw [← hsp]
              exact hw'.rem Rem.head
            · skip
              refine CW.skip (EX.bkN (EX.seq (CW.region ?_)))
              refine RW.add rfl rfl rfl (wrap64 (by omega) (by omega)) ?_
              refine RW.move rfl rfl ?_
              refine RW.nil ?_
              -- mq: loopend
              have hfg : posF rows cols x = stF rows cols x (linesL rows rows.length) 0 x := by rw [posF, if_neg (by rintro (h | h); exact h118p h; omega)]
              refine EX.lpN (i + 1) (by omega) (by omega) (by repeat (first | exact Sub.nil | refine Sub.cons (by rfl) ?_)) (fun w' hw' => ?_)
              rw [← hst2 hfg]
              exact hw'.rem Rem.head
        · skip
          have him : i = m := by omega
          refine CW.exit (EX.seqE (EX.lpE (EX.bkE (EX.seq (CW.seq (CW.region ?_))))))
          refine RW.move rfl rfl ?_
          refine RW.move rfl rfl ?_
          refine RW.assign rfl rfl ?_
          refine RW.assign rfl rfl ?_
          refine RW.nil (EX.seq (CW.ret ?_))
          refine EX.fin2 Try.results8 rfl rfl (fun wz hw => ?_)
          -- mq: done
          have hlist : (l.take i).map (posF rows cols) ++ (l.drop i).map (fun p => stF rows cols p (linesL rows rows.length) 0 p) = l.map (posF rows cols) := by
            rw [List.take_of_length_le (by omega), List.drop_eq_nil_of_le (by omega)]
            simp
          rw [hlist] at hw
          obtain ⟨A6, c6, he6, hrd6⟩ := Rd.of_own (E := ERow) (hw.has Has.head) rfl
          cases he6
          obtain ⟨A7, c7, he7, hrd7⟩ := Rd.of_own (E := EPos) (hw.has (Has.tail Has.head)) (by simp; omega)
          cases he7
          have hS1 : ∀ k, (Value.slice A9 rs.length c9).ownBlock = some k → k ∈ S := fun k hk => by rw [← hS]; simp [feet, own, hk]
          have hS2 : ∀ k, (Value.slice A8 m c8).ownBlock = some k → k ∈ S := fun k hk => by rw [← hS]; simp [feet, own, hk]
          refine ⟨_, _, _, _, _, _, rfl, e1.trans hw.ext (fun x hx hlt => absurd (fresh x hx) (by omega)), ⟨rs, hrd6.weak (fun k hk => fresh k (hS1 k hk)), conts, fun k r row hk hrow => ?_⟩, hrd7.weak (fun k hk => fresh k (hS2 k hk))⟩
          exact ((nest k r row hk hrow).ext hw.ext (fun k hk => hk.2)).weak (fun k hk => hk.1)
theorem Reflow_c (w : World) (F G : Nat → Prop) (A B : Option Addr) (n c m d : Nat) (rows : List RowL) (l : List PosV) (cols : Nat) (hr0 : RdRows w F A n c rows) (hl0 : Rd EPos w G B m d l) (hsz : n + sumLen rows ≤ 600) (hm : m ≤ 40) (hp : ∀ p ∈ l, Pos64 p) (hc1 : 2 ≤ cols) (hc2 : cols ≤ 1000) :
    Calls Try.prog 8 [.slice A n c, .int .i64 (cols : Int), .slice B m d].toArray w (RetReflow w (outF rows cols (linesL rows n)) (l.map (posF rows cols))) :=
  ReflowG_c w F G A B n c m d rows l cols hr0 hl0 (by omega) (by omega) (fun ln _ => by
    have h1 := flowF_length (segOld rows ln)
    have h2 := sumLen_seg rows ln
    omega) hm hp hc1 hc2
end Go.Proofs.Ytjmmikdbhhomiaa.Mq
