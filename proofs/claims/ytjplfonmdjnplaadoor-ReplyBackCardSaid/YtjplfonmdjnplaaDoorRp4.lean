/- reply: walk of ReplyBack -/
import Derived.Test.YtjplfonmdjnplaaDoorRp3
namespace Go.Proofs.YtjplfonmdjnplaaDoor.Mq
open Go Go.RowKit Go.Proofs

theorem numT_nat (n : Nat) : numT (n : Int) = Lib.decDigits n := by rw [numT, if_neg (by omega), Lib.itoa_nonneg]
theorem groupT_one (n : Nat) : groupT [(n : Int)] = Lib.decDigits n := by rw [groupT, List.map_cons, List.map_nil, Lib.join_one, numT_nat]
theorem cleanGs_of {gs : List (List Int)} (h0 : gs ≠ []) (h1 : gs.length ≤ 32) (h : ∀ g ∈ gs, ∃ n : Nat, g = [(n : Int)] ∧ n ≤ 1001) : CleanGs gs :=
  ⟨h0, h1, fun g hg => by
    obtain ⟨n, rfl, hn⟩ := h g hg
    exact ⟨by simp, by simp, fun m hm => by simp at hm; subst hm; unfold CleanN; omega⟩⟩
/-- the groups of a cursor, and of a size -/
def curG (a b : Nat) : List (List Int) := [[((a + 1 : Nat) : Int)], [((b + 1 : Nat) : Int)]]
def szG (a b : Nat) : List (List Int) := [[((8 : Nat) : Int)], [(a : Int)], [(b : Int)]]
theorem curG_clean {a b : Nat} (ha : a ≤ 1000) (hb : b ≤ 1000) : CleanGs (curG a b) := cleanGs_of (by simp [curG]) (by simp [curG]) (by
  intro g hg
  simp only [curG, List.mem_cons, List.not_mem_nil, or_false] at hg
  rcases hg with rfl | rfl
  · exact ⟨a + 1, rfl, by omega⟩
  · exact ⟨b + 1, rfl, by omega⟩)
theorem szG_clean {a b : Nat} (ha : a ≤ 1000) (hb : b ≤ 1000) : CleanGs (szG a b) := cleanGs_of (by simp [szG]) (by simp [szG]) (by
  intro g hg
  simp only [szG, List.mem_cons, List.not_mem_nil, or_false] at hg
  rcases hg with rfl | rfl | rfl
  · exact ⟨8, rfl, by omega⟩
  · exact ⟨a, rfl, by omega⟩
  · exact ⟨b, rfl, by omega⟩)
theorem curG_text (a b : Nat) : textT (curG a b) = Lib.decDigits (a + 1) ++ 59 :: Lib.decDigits (b + 1) := by
  simp only [textT, curG, List.map_cons, List.map_nil, groupT_one]
  rw [join_two, Lib.join_one]
theorem szG_text (a b : Nat) : textT (szG a b) = 56 :: 59 :: (Lib.decDigits a ++ 59 :: Lib.decDigits b) := by
  simp only [textT, szG, List.map_cons, List.map_nil, groupT_one]
  rw [join_two, join_two, Lib.join_one, ds1 (n := 8) (by decide)]
  rfl
theorem strip_digit {l : List UInt8} (h : ∀ c ∈ l, c.toNat ≤ 59) : stripF l = l := by
  cases l with
  | nil => rfl
  | cons c t =>
    have := h c (by simp)
    exact if_neg (by omega)
theorem head_le {l : List UInt8} (h : headB l = true) : ∀ c ∈ l, c.toNat ≤ 59 := fun c hc => by
  unfold headB at h
  have := List.all_eq_true.1 h c hc
  unfold inHead at this
  simp at this
  omega
theorem cur_form (p : Bool) {a b : Nat} (ha : a ≤ 1000) (hb : b ≤ 1000) : ∃ h, curT p a b = 27 :: 91 :: (h ++ [82]) ∧ stripF h = textT (curG a b) := by
  have ht := head_le (head_text (curG_clean ha hb))
  refine ⟨(if p then [63] else []) ++ textT (curG a b), ?_, ?_⟩
  · rw [curG_text, curT]
    simp
  · cases p with
    | true =>
      show stripF (63 :: textT (curG a b)) = _
      have key : ∀ l, stripF (63 :: l) = l := fun l => by simp [stripF]
      exact key _
    | false => exact strip_digit ht
theorem sz_form {a b : Nat} (ha : a ≤ 1000) (hb : b ≤ 1000) : ∃ h, szT a b = 27 :: 91 :: (h ++ [116]) ∧ stripF h = textT (szG a b) := by
  have ht := head_le (head_text (szG_clean ha hb))
  refine ⟨textT (szG a b), ?_, strip_digit ht⟩
  rw [szG_text, szT]
  simp
theorem read_groups (w : World) (s : List UInt8) (h : List UInt8) (c : UInt8) (gs : List (List Int)) (hs : s = 27 :: 91 :: (h ++ [c])) (hf : stripF h = textT gs) (hg : CleanGs gs) (hl : gs.length ≤ 3) (h1 : ∀ g ∈ gs, g.length ≤ 1) (hh : h.length ≤ 1000) (hc : 64 ≤ c.toNat ∧ c.toNat ≤ 126) :
    Calls Tryd.prog 15 [.string (bs s)].toArray w (RetA (fun v w' => ∃ A n k, v = .tuple #[.int .u8 (c.toNat : Int), .slice A n k, .int .i64 0] ∧ RdG w' (fun k => w.heap.size ≤ k) A n k gs) w) := by
  subst hs
  refine (read_good w h c (by omega)).mono fun e w' ⟨v, h2, h3, h4⟩ => ⟨v, h2, h3, ?_⟩
  have hgt := join_le [59] 21 (gs.map groupT) (fun s hs => by
    obtain ⟨g, hgm, rfl⟩ := List.mem_map.1 hs
    have := join_le [58] 21 (g.map numT) (fun s hs => by
      obtain ⟨x, hx, rfl⟩ := List.mem_map.1 hs
      exact numT_len ((hg.each g hgm).2.2 x hx))
    have h1 := h1 g hgm
    match g, h1 with
    | [], _ => simp [groupT, Lib.join_nil]
    | [x], _ => rw [groupT, List.map_cons, List.map_nil, Lib.join_one]; exact numT_len ((hg.each _ hgm).2.2 x (by simp))
    | _ :: _ :: _, h1 => simp at h1)
  simp only [List.length_map, List.length_singleton] at hgt
  have hok : okF h c = true := by
    unfold okF
    rw [hf, head_text hg]
    have : (textT gs).length ≤ 256 := by unfold textT; omega
    simp; omega
  unfold IsRd at h4
  rw [if_pos hok, hf, parse_text hg] at h4
  exact h4
theorem sideN_u16 (a : Nat) : min (a : Int) 1000 = (sideN (a : Int) : Int) := by rw [← sideN_eq]; omega
theorem back_c (w : World) (hg : Gl w) (y x : Nat) (hy : y < 65536) (hx : x < 65536) (p : Bool) : Calls Tryd.prog 7 [.int .u16 (y : Int), .int .u16 (x : Int), .bool p].toArray w (fun e w' => e = .returned (.bool true) ∧ Ext [] w w') := by
  have hya := sideN_le (y : Int)
  have hxa := sideN_le (x : Int)
  obtain ⟨h1, hc1, hc2⟩ := cur_form p hya hxa
  obtain ⟨h2, hz1, hz2⟩ := sz_form hya hxa
  have hl1 := ds_len (n := sideN (y : Int) + 1) (by omega)
  have hl2 := ds_len (n := sideN (x : Int) + 1) (by omega)
  have hl3 := ds_len (n := sideN (y : Int)) (by omega)
  have hl4 := ds_len (n := sideN (x : Int)) (by omega)
  have hh1 : h1.length ≤ 1000 := by
    have := congrArg List.length hc1
    have hpl : (if p then ([63] : List UInt8) else []).length ≤ 1 := by split <;> simp
    simp only [curT, List.length_append, List.length_cons, List.length_nil] at this
    omega
  have hh2 : h2.length ≤ 1000 := by
    have := congrArg List.length hz1
    simp only [szT, List.length_append, List.length_cons, List.length_nil] at this
    omega
  refine calls (n := 80) Tryd.func7 rfl Tryd.ntmps7 rfl ?_
  refine CW.sub (H' := SH w [] []) ?_ (Sub.refl _) (fun x hx => SH.start' _ _ hx)
  refine CW.seq (CW.region ?_)
  refine RW.assign rfl rfl ?_
  refine RW.nil (EX.seq (CW.seq (CW.region ?_)))
  refine RW.move rfl rfl ?_
  refine RW.convI rfl rfl Tryd.underlying26 Tryd.underlying3 (wrap64 (by omega) (by omega)) ?_
  refine RW.min2 rfl rfl rfl ?_
  refine RW.move rfl rfl ?_
  refine RW.convI rfl rfl Tryd.underlying26 Tryd.underlying3 (wrap64 (by omega) (by omega)) ?_
  refine RW.min2 rfl rfl rfl ?_
  refine RW.assign rfl rfl ?_
  refine RW.assign rfl rfl ?_
  refine RW.nil (EX.seq (CW.seq ?_))
  -- mq: region
  rw [sideN_u16 y, sideN_u16 x]
  refine CW.region ?_
  refine RW.move rfl rfl ?_
  refine RW.convI rfl rfl Tryd.underlying26 Tryd.underlying3 (wrap64 (by omega) (by omega)) ?_
  refine RW.move rfl rfl ?_
  refine RW.convI rfl rfl Tryd.underlying26 Tryd.underlying3 (wrap64 (by omega) (by omega)) ?_
  refine RW.move rfl rfl ?_
  refine RW.call rfl ca8 rfl (fun w' hw' => cursor_c w' (hg.ext hw'.ext) y x p) ?_
  -- mq: at
  refine RW.callA (R := fun w0 v w' => ∃ A n k, v = .tuple #[.int .u8 ((82 : UInt8).toNat : Int), .slice A n k, .int .i64 0] ∧ RdG w' (fun k => w0.heap.size ≤ k) A n k (curG (sideN y) (sideN x))) rfl ca15 rfl (fun w' hw' => read_groups w' _ h1 82 _ hc1 hc2 (curG_clean hya hxa) (by simp [curG]) (by simp [curG]) hh1 (by decide)) ?_
  rintro w0 w1 v hw0 he01 hw1 hlt ⟨A, n, k, rfl, hrd⟩
  have hx1 : Ext [] w w1 := hw0.ext.trans0 he01
  rw [show feet [] = [] from rfl]
  refine RW.move rfl rfl ?_
  refine RW.extract rfl rfl rfl ?_
  refine RW.extract rfl rfl rfl ?_
  refine RW.extract rfl rfl rfl ?_
  refine RW.assign rfl rfl ?_
  refine RW.assign rfl rfl ?_
  refine RW.assign rfl rfl ?_
  refine RW.nil (EX.seq (CW.seq ?_))
  -- mq: region
  refine CW.region ?_
  refine RW.move rfl rfl ?_
  refine RW.convI rfl rfl Tryd.underlying26 Tryd.underlying3 (wrap64 (by omega) (by omega)) ?_
  refine RW.move rfl rfl ?_
  refine RW.convI rfl rfl Tryd.underlying26 Tryd.underlying3 (wrap64 (by omega) (by omega)) ?_
  refine RW.call rfl ca10 rfl (fun w' hw' => size_c w' (hg.ext (hx1.trans0 hw'.ext)) y x) ?_
  -- mq: at
  refine RW.callA (R := fun w0 v w' => ∃ A n k, v = .tuple #[.int .u8 ((116 : UInt8).toNat : Int), .slice A n k, .int .i64 0] ∧ RdG w' (fun k => w0.heap.size ≤ k) A n k (szG (sideN y) (sideN x))) rfl ca15 rfl (fun w' hw' => read_groups w' _ h2 116 _ hz1 hz2 (szG_clean hya hxa) (by simp [szG]) (by simp [szG]) hh2 (by decide)) ?_
  rintro w2 w3 v hw2 he23 hw3 hlt2 ⟨A3, n3, k3, rfl, hrd3⟩
  have hx13 : Ext [] w1 w3 := hw2.ext.trans0 he23
  have hx3 : Ext [] w w3 := hx1.trans0 hx13
  rw [show feet [] = [] from rfl]
  have hrd := hrd.ext hx13 (by simp)
  have hn1 := hrd.len
  have hn3 := hrd3.len
  generalize sideN (y : Int) = a at *
  generalize sideN (x : Int) = b at *
  have e1 : ((a : Int) + 1) = ((a + 1 : Nat) : Int) := by omega
  have e2 : ((b : Int) + 1) = ((b + 1 : Nat) : Int) := by omega
  refine RW.move rfl rfl ?_
  refine RW.extract rfl rfl rfl ?_
  refine RW.extract rfl rfl rfl ?_
  refine RW.extract rfl rfl rfl ?_
  refine RW.assign rfl rfl ?_
  refine RW.assign rfl rfl ?_
  refine RW.assign rfl rfl ?_
  refine RW.nil (EX.seq (CW.seq (CW.region ?_)))
  refine RW.move rfl rfl ?_
  refine RW.eqlI rfl rfl rfl ?_
  refine RW.move rfl rfl ?_
  refine RW.guardT rfl rfl rfl ?_
  refine RW.move rfl rfl ?_
  refine RW.guardT rfl rfl rfl ?_
  refine RW.eqlI rfl rfl rfl ?_
  refine RW.pickB rfl rfl rfl rfl ?_
  refine RW.move rfl rfl ?_
  refine RW.guardT rfl rfl rfl ?_
  refine RW.move rfl rfl ?_
  refine RW.guardT rfl rfl rfl ?_
  refine RW.eqlI rfl rfl rfl ?_
  refine RW.pickB rfl rfl rfl rfl ?_
  refine RW.move rfl rfl ?_
  refine RW.guardT rfl rfl rfl ?_
  refine RW.move rfl rfl ?_
  refine RW.guardT rfl rfl rfl ?_
  refine RW.eqlI rfl rfl rfl ?_
  refine RW.pickB rfl rfl rfl rfl ?_
  refine RW.move rfl rfl ?_
  refine RW.guardT rfl rfl rfl ?_
  refine RW.move rfl rfl ?_
  refine RW.guardT rfl rfl rfl ?_
  refine RW.move rfl rfl ?_
  refine RW.guardT rfl rfl rfl ?_
  refine RW.add rfl rfl rfl (wrap64 (by omega) (by omega)) ?_
  refine RW.guardT rfl rfl rfl ?_
  refine RW.buildSlc sl44 rfl rfl rfl rfl (fun g60 hg60 hf60 => ?_)
  refine RW.guardT rfl rfl rfl ?_
  refine RW.move rfl rfl ?_
  refine RW.guardT rfl rfl rfl ?_
  refine RW.add rfl rfl rfl (wrap64 (by omega) (by omega)) ?_
  refine RW.guardT rfl rfl rfl ?_
  refine RW.buildSlc sl44 rfl rfl rfl rfl (fun g63 hg63 hf63 => ?_)
  refine RW.guardT rfl rfl rfl ?_
  refine RW.buildSlc sl36 rfl rfl rfl rfl (fun g64 hg64 hf64 => ?_)
  refine RW.guardT rfl rfl rfl ?_
  -- mq: op 23: ('Op.call', ('Call.mk', ('Callee.value', ('Operand.func', '17')), ('arr', ('Operand.tmp', '57'), ('Operand.tmp', '64')), ('arr', '36', '36'))) -> slot 65 ("law.go:44")
  refine RW.call rfl ca17 rfl (fun w' hw' => Same_c w' _ (fun _ => True) _ _ _ _ _ _ (curG a b) (hrd.ext hw'.ext (by simp)) ?_ (by rw [← hn1]; simp [curG]) (by simp [curG])) ?_
  · rw [show curG a b = [[(a : Int) + 1], [(b : Int) + 1]] by simp [curG]]
    have hro := Rd.of_blk (E := ESl) (L := [⟨some ⟨g60, 0, none⟩, 1, 1⟩, ⟨some ⟨g63, 0, none⟩, 1, 1⟩]) hw' Has.head rfl (by show 2 ≤ maxLen; decide)
    have q0 := Rd.of_blk (E := EInt) (L := [(a : Int) + 1]) hw' (Has.tail (Has.tail Has.head)) rfl (show 1 ≤ maxLen by decide)
    have q1 := Rd.of_blk (E := EInt) (L := [(b : Int) + 1]) hw' (Has.tail Has.head) rfl (show 1 ≤ maxLen by decide)
    refine ⟨[⟨some ⟨g60, 0, none⟩, 1, 1⟩, ⟨some ⟨g63, 0, none⟩, 1, 1⟩], hro.weak (fun _ _ => trivial), rfl, fun k s g hs hg => ?_⟩
    match k, hs, hg with
    | 0, hs, hg => simp at hs hg; subst hs; subst hg; exact q0.weak (fun _ _ => trivial)
    | 1, hs, hg => simp at hs hg; subst hs; subst hg; exact q1.weak (fun _ _ => trivial)
    | k + 2, hs, hg => simp at hs
  refine RW.pickB rfl rfl rfl rfl ?_
  refine RW.move rfl rfl ?_
  refine RW.guardT rfl rfl rfl ?_
  refine RW.move rfl rfl ?_
  refine RW.guardT rfl rfl rfl ?_
  refine RW.buildSlc sl44 rfl rfl rfl rfl (fun g69 hg69 hf69 => ?_)
  refine RW.guardT rfl rfl rfl ?_
  refine RW.move rfl rfl ?_
  refine RW.guardT rfl rfl rfl ?_
  refine RW.buildSlc sl44 rfl rfl rfl rfl (fun g71 hg71 hf71 => ?_)
  refine RW.guardT rfl rfl rfl ?_
  refine RW.move rfl rfl ?_
  refine RW.guardT rfl rfl rfl ?_
  refine RW.buildSlc sl44 rfl rfl rfl rfl (fun g73 hg73 hf73 => ?_)
  refine RW.guardT rfl rfl rfl ?_
  refine RW.buildSlc sl36 rfl rfl rfl rfl (fun g74 hg74 hf74 => ?_)
  refine RW.guardT rfl rfl rfl ?_
  -- mq: op 33: ('Op.call', ('Call.mk', ('Callee.value', ('Operand.func', '17')), ('arr', ('Operand.tmp', '68'), ('Operand.tmp', '74')), ('arr', '36', '36'))) -> slot 75 ("law.go:44")
  refine RW.call rfl ca17 rfl (fun w' hw' => Same_c w' _ (fun _ => True) _ _ _ _ _ _ (szG a b) (hrd3.ext hw'.ext (by simp)) ?_ (by rw [← hn3]; simp [szG]) (by simp [szG])) ?_
  · rw [show szG a b = [[8], [(a : Int)], [(b : Int)]] by simp [szG]]
    have hro := Rd.of_blk (E := ESl) (L := [⟨some ⟨g69, 0, none⟩, 1, 1⟩, ⟨some ⟨g71, 0, none⟩, 1, 1⟩, ⟨some ⟨g73, 0, none⟩, 1, 1⟩]) hw' Has.head rfl (by show 3 ≤ maxLen; decide)
    have q0 := Rd.of_blk (E := EInt) (L := [8]) hw' (Has.tail (Has.tail (Has.tail Has.head))) rfl (show 1 ≤ maxLen by decide)
    have q1 := Rd.of_blk (E := EInt) (L := [(a : Int)]) hw' (Has.tail (Has.tail Has.head)) rfl (show 1 ≤ maxLen by decide)
    have q2 := Rd.of_blk (E := EInt) (L := [(b : Int)]) hw' (Has.tail Has.head) rfl (show 1 ≤ maxLen by decide)
    refine ⟨[⟨some ⟨g69, 0, none⟩, 1, 1⟩, ⟨some ⟨g71, 0, none⟩, 1, 1⟩, ⟨some ⟨g73, 0, none⟩, 1, 1⟩], hro.weak (fun _ _ => trivial), rfl, fun k s g hs hg => ?_⟩
    match k, hs, hg with
    | 0, hs, hg => simp at hs hg; subst hs; subst hg; exact q0.weak (fun _ _ => trivial)
    | 1, hs, hg => simp at hs hg; subst hs; subst hg; exact q1.weak (fun _ _ => trivial)
    | 2, hs, hg => simp at hs hg; subst hs; subst hg; exact q2.weak (fun _ _ => trivial)
    | k + 3, hs, hg => simp at hs
  refine RW.pickB rfl rfl rfl rfl ?_
  refine RW.move rfl rfl ?_
  refine RW.guardT rfl rfl rfl ?_
  refine RW.call rfl ca12 rfl (fun w' hw' => awake_c w' (hg.ext (hx3.trans0 hw'.ext))) ?_
  refine RW.pickB rfl rfl rfl rfl ?_
  refine RW.assign rfl rfl ?_
  refine RW.nil (EX.seq (CW.ret ?_))
  refine EX.fin1 Tryd.results7 rfl (fun wz hw => ?_)
  -- mq: done
  exact ⟨rfl, hx3.trans0 hw.ext⟩
end Go.Proofs.YtjplfonmdjnplaaDoor.Mq
