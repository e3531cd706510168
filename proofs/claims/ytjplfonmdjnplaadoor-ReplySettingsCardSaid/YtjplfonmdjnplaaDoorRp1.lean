/- reply: walks of numbers, side, Near, Primary, Secondary, Fine, Cursor, Size -/
import Derived.Test.YtjplfonmdjnplaaDoorJoin
import Derived.Test.YtjplfonmdjnplaaDoorPm8s
namespace Go.Proofs.YtjplfonmdjnplaaDoor.Mq
open Go Go.RowKit Go.Proofs


theorem numbers_c (w : World) (hg : Gl w) (F : Nat → Prop) (A : Option Addr) (m c : Nat) (l : List Int) (hr : Rd EInt w F A m c l) (hm : m ≤ 1000) (h64 : ∀ x ∈ l, -9223372036854775808 ≤ x ∧ x ≤ 9223372036854775807) :
    Calls Tryd.prog 18 [.slice A m c].toArray w (fun e w' => e = .returned (.string (bs (numsT l))) ∧ Ext [] w w') := by
  have hlen := hr.len
  have hnl := numsT_len l h64
  refine calls (n := 20) Tryd.func18 rfl Tryd.ntmps18 rfl ?_
  refine CW.sub (H' := SH w [] []) ?_ (Sub.refl _) (fun x hx => SH.start' _ _ hx)
  refine CW.seq (CW.region ?_)
  refine RW.assign rfl rfl ?_
  refine RW.nil (EX.seq (CW.seq (CW.region ?_)))
  refine RW.assign rfl rfl ?_
  refine RW.nil (EX.seq (CW.seq (CW.seq ?_)))
  -- mq: region
  refine CW.ownNil 9 1 ?_
  refine CW.region ?_
  refine RW.move rfl rfl ?_
  refine RW.lenSl Tryd.underlying44 rfl rfl ?_
  refine RW.move rfl rfl ?_
  refine RW.nil (EX.seq (CW.block ?_))
  -- mq: loop
  refine CW.loop (ι := Nat × Value) (fun k => [(3, k.2), (6, .slice A m c), (7, .int .i64 (m : Int)), (8, .int .i64 (k.1 : Int))]) (fun k => SH w [] [own 9 1 k.2 k.1 (EStr.all ((l.take k.1).map Lib.itoa))]) (fun k => k.1 ≤ m) (fun k => m - k.1) ?_ ?_
  · exact fun w hw => ⟨(0, .slice none 0 0), Nat.zero_le _, (by repeat (first | exact Sub.nil | refine Sub.cons (by rfl) ?_)), hw⟩
  · rintro ⟨k, v⟩ hk
    dsimp only at hk ⊢
    refine CW.seq (CW.region ?_)
    refine RW.lss rfl rfl rfl ?_
    refine RW.nil (EX.seq (CW.seq ?_))
    -- mq: cond
    first | refine CW.condD rfl (fun hlt => ?_) (fun hlt => ?_) | refine CW.cond rfl (fun hlt => ?_) (fun hlt => ?_)
    · skip
      obtain ⟨x, hx⟩ : ∃ x, l[k]? = some x := ⟨l[k]'(by omega), List.getElem?_eq_getElem _⟩
      have hxb := h64 x (List.mem_of_getElem? hx)
      obtain ⟨ad, hA, _, hcell⟩ := hr.at_ hx
      refine CW.skip (EX.seq (CW.seq (CW.block (CW.seq (CW.region ?_)))))
      refine RW.ixAddr (q := k) sl44 rfl rfl rfl hA (by omega) (by omega) ?_
      refine RW.load1 sc3 rfl rfl (fun w' hw' => hw'.base_cell (hcell 0 _ rfl) (by simp)) ?_
      refine RW.assign rfl rfl ?_
      refine RW.nil (EX.seq ?_)
      -- mq: region
      refine CW.region ?_
      refine RW.move rfl rfl ?_
      refine RW.move rfl rfl ?_
      refine RW.call rfl caItoa rfl (fun w' hw' => itoa_c w' (hg.ext hw'.ext) x hxb) ?_
      refine RW.buildSlc sl57 rfl rfl rfl rfl (fun g15 hg15 hf15 => ?_)
      refine RW.append1 sl57 rfl rfl rfl (by first | exact Rem.head | exact Rem.tail Rem.head | exact Rem.tail (Rem.tail Rem.head) | exact Rem.tail (Rem.tail (Rem.tail Rem.head)) | exact Rem.tail (Rem.tail (Rem.tail (Rem.tail Rem.head))) | exact Rem.tail (Rem.tail (Rem.tail (Rem.tail (Rem.tail Rem.head)))) | exact Rem.tail (Rem.tail (Rem.tail (Rem.tail (Rem.tail (Rem.tail Rem.head)))))) (fun _ => by first | exact Upd.head | exact Upd.tail Upd.head | exact Upd.tail (Upd.tail Upd.head) | exact Upd.tail (Upd.tail (Upd.tail Upd.head)) | exact Upd.tail (Upd.tail (Upd.tail (Upd.tail Upd.head))) | exact Upd.tail (Upd.tail (Upd.tail (Upd.tail (Upd.tail Upd.head)))) | exact Upd.tail (Upd.tail (Upd.tail (Upd.tail (Upd.tail (Upd.tail Upd.head)))))) rfl (by repeat (first | exact Ones.nil | exact Enc.ones _ _ | refine Ones.cons rfl ?_)) (by simp only [maxLen]; omega) (by omega) (fun v16 hv16 => ?_)
      refine RW.assign rfl rfl ?_
      refine RW.nil (EX.bkN (EX.seq (CW.region ?_)))
      refine RW.add rfl rfl rfl (wrap64 (by omega) (by omega)) ?_
      refine RW.move rfl rfl ?_
      refine RW.nil ?_
      -- mq: loopend
      refine EX.lpN (k + 1, v16) (by dsimp only; omega) (by dsimp only; omega) (by repeat (first | exact Sub.nil | refine Sub.cons (by rfl) ?_)) (fun w' hw' => ?_)
      dsimp only
      rw [List.take_add_one, hx, Option.toList_some, List.map_append, List.map_cons, List.map_nil, Enc.all_snoc]
      exact hw'
    · skip
      obtain rfl : k = m := by omega
      rw [List.take_of_length_le (by omega)]
      refine CW.exit (EX.seqE (EX.lpE (EX.bkE (EX.seq (CW.seq ?_)))))
      -- mq: region
      refine CW.region ?_
      refine RW.move rfl rfl ?_
      refine RW.call rfl caJoin rfl (fun w' hw' => join_c w' _ _ _ (l.map Lib.itoa) [59] (hw'.has Has.head) (by simp; omega) (by omega) (by show (numsT l).length ≤ _; omega)) ?_
      refine RW.assign rfl rfl ?_
      refine RW.nil (EX.seq (CW.ret ?_))
      refine EX.fin1 Tryd.results18 rfl (fun wz hw => ?_)
      -- mq: done
      exact ⟨rfl, hw.ext⟩
def sideN (n : Int) : Nat := (max 0 (min n 1000)).toNat
theorem sideN_eq (n : Int) : max 0 (min n 1000) = (sideN n : Int) := by unfold sideN; omega
theorem sideN_le (n : Int) : sideN n ≤ 1000 := by unfold sideN; omega
theorem sideN_id {n : Nat} (h : n ≤ 1000) : sideN (n : Int) = n := by unfold sideN; omega
theorem side_c (w : World) (n : Int) : Calls Tryd.prog 19 [.int .i64 n].toArray w (fun e w' => e = .returned (.int .i64 (sideN n : Int)) ∧ Ext [] w w') := by
  refine calls (n := 6) Tryd.func19 rfl Tryd.ntmps19 rfl ?_
  refine CW.sub (H' := SH w [] []) ?_ (Sub.refl _) (fun x hx => SH.start' _ _ hx)
  refine CW.seq (CW.region ?_)
  refine RW.assign rfl rfl ?_
  refine RW.nil (EX.seq (CW.seq (CW.region ?_)))
  refine RW.move rfl rfl ?_
  refine RW.min2 rfl rfl rfl ?_
  refine RW.max2 rfl rfl rfl ?_
  refine RW.assign rfl rfl ?_
  refine RW.nil (EX.seq (CW.ret ?_))
  refine EX.fin1 Tryd.results19 rfl (fun wz hw => ?_)
  -- mq: done
  exact ⟨by rw [← sideN_eq], hw.ext⟩
theorem near_c (w : World) (n : Int) : Calls Tryd.prog 21 [.int .i64 n].toArray w (fun e w' => e = .returned (.int .i64 (sideN n : Int)) ∧ Ext [] w w') := by
  refine calls (n := 8) Tryd.func21 rfl Tryd.ntmps21 rfl ?_
  refine CW.sub (H' := SH w [] []) ?_ (Sub.refl _) (fun x hx => SH.start' _ _ hx)
  refine CW.seq (CW.region ?_)
  refine RW.assign rfl rfl ?_
  refine RW.nil (EX.seq (CW.seq (CW.seq (CW.region ?_))))
  refine RW.move rfl rfl ?_
  refine RW.lss rfl rfl rfl ?_
  refine RW.nil (EX.seq ?_)
  -- mq: cond
  first | refine CW.condD rfl (fun h1 => ?_) (fun h1 => ?_) | refine CW.cond rfl (fun h1 => ?_) (fun h1 => ?_)
  · skip
    refine CW.seq (CW.region ?_)
    refine RW.assign rfl rfl ?_
    refine RW.nil (EX.seq (CW.ret (EX.seqR ?_)))
    refine EX.fin1 Tryd.results21 rfl (fun wz hw => ?_)
    -- mq: done
    refine ⟨?_, hw.ext⟩
    rw [← sideN_eq]; congr 2; omega
  · skip
    refine CW.skip (EX.seq (CW.seq (CW.seq (CW.region ?_))))
    refine RW.move rfl rfl ?_
    refine RW.gtr rfl rfl rfl ?_
    refine RW.nil (EX.seq ?_)
    -- mq: cond
    first | refine CW.condD rfl (fun h2 => ?_) (fun h2 => ?_) | refine CW.cond rfl (fun h2 => ?_) (fun h2 => ?_)
    · skip
      refine CW.seq (CW.region ?_)
      refine RW.assign rfl rfl ?_
      refine RW.nil (EX.seq (CW.ret (EX.seqR ?_)))
      refine EX.fin1 Tryd.results21 rfl (fun wz hw => ?_)
      -- mq: done
      refine ⟨?_, hw.ext⟩
      rw [← sideN_eq]; congr 2; omega
    · skip
      refine CW.skip (EX.seq (CW.seq (CW.region ?_)))
      refine RW.move rfl rfl ?_
      refine RW.assign rfl rfl ?_
      refine RW.nil (EX.seq (CW.ret ?_))
      refine EX.fin1 Tryd.results21 rfl (fun wz hw => ?_)
      -- mq: done
      refine ⟨?_, hw.ext⟩
      rw [← sideN_eq]; congr 2; omega
theorem ds_len {n : Nat} (h : n ≤ 1001) : (Lib.decDigits n).length ≤ 21 := dec_len_le (by omega)
def curT (p : Bool) (y x : Nat) : List UInt8 := [27, 91] ++ (if p then [63] else []) ++ Lib.decDigits (y + 1) ++ [59] ++ Lib.decDigits (x + 1) ++ [82]
def szT (r c : Nat) : List UInt8 := [27, 91, 56, 59] ++ Lib.decDigits r ++ [59] ++ Lib.decDigits c ++ [116]
theorem nums1 (a : Nat) : numsT [(a : Int)] = Lib.decDigits a := by
  simp only [numsT, List.map_cons, List.map_nil, Lib.join_one, Lib.itoa_nonneg]
theorem nums2 (a b : Nat) : numsT [(a : Int), (b : Int)] = Lib.decDigits a ++ [59] ++ Lib.decDigits b := by
  simp [numsT, Lib.join, List.intercalate, Lib.itoa_nonneg]
theorem nums3 (a b c : Nat) : numsT [(a : Int), (b : Int), (c : Int)] = Lib.decDigits a ++ [59] ++ Lib.decDigits b ++ [59] ++ Lib.decDigits c := by
  simp [numsT, Lib.join, List.intercalate, Lib.itoa_nonneg]
theorem cursor_c (w : World) (hg : Gl w) (y x : Int) (p : Bool) : Calls Tryd.prog 8 [.int .i64 y, .int .i64 x, .bool p].toArray w (fun e w' => e = .returned (.string (bs (curT p (sideN y) (sideN x)))) ∧ Ext [] w w') := by
  have hy := sideN_le y
  have hx := sideN_le x
  refine calls (n := 21) Tryd.func8 rfl Tryd.ntmps8 rfl ?_
  refine CW.sub (H' := SH w [] []) ?_ (Sub.refl _) (fun x hx => SH.start' _ _ hx)
  refine CW.seq (CW.region ?_)
  refine RW.assign rfl rfl ?_
  refine RW.nil (EX.seq (CW.seq (CW.region ?_)))
  refine RW.assign rfl rfl ?_
  refine RW.nil (EX.seq (CW.seq ?_))
  -- mq: seq
  refine CW.join ([(0, .int .i64 y), (1, .int .i64 x), (7, .string (bs (if p then [63] else [])))]) (SH w [] []) ?_ ?_
  · skip
    refine CW.seq (CW.region ?_)
    refine RW.move rfl rfl ?_
    refine RW.nil (EX.seq ?_)
    -- mq: cond
    first | refine CW.condD rfl (fun h1 => ?_) (fun h1 => ?_) | refine CW.cond rfl (fun h1 => ?_) (fun h1 => ?_)
    · skip
      refine CW.region ?_
      refine RW.assign rfl rfl ?_
      refine RW.nil ?_
      -- mq: joinend
      rw [if_pos h1]
      exact EX.jn (by repeat (first | exact Sub.nil | refine Sub.cons (by rfl) ?_)) (fun _ h => h)
    · skip
      refine CW.skip ?_
      -- mq: joinend
      rw [if_neg (by simp [h1])]
      exact EX.jn (by repeat (first | exact Sub.nil | refine Sub.cons (by rfl) ?_)) (fun _ h => h)
  · skip
    have hpl : (if p then ([63] : List UInt8) else []).length ≤ 1 := by split <;> simp
    generalize hpp : (if p then ([63] : List UInt8) else []) = pp at *
    refine EX.seq (CW.seq ?_)
    -- mq: region
    have hl1 := ds_len (n := sideN y + 1) (by omega)
    have hl2 := ds_len (n := sideN x + 1) (by omega)
    refine CW.region ?_
    refine RW.move rfl rfl ?_
    refine RW.catS rfl rfl rfl (by first | omega | (simp only [List.length_append, List.length_cons, List.length_nil]; omega)) ?_
    refine RW.move rfl rfl ?_
    refine RW.call rfl ca19 rfl (fun w' _ => side_c w' y) ?_
    refine RW.add rfl rfl rfl (wrap64 (by omega) (by omega)) ?_
    refine RW.move rfl rfl ?_
    refine RW.call rfl ca19 rfl (fun w' _ => side_c w' x) ?_
    refine RW.add rfl rfl rfl (wrap64 (by omega) (by omega)) ?_
    refine RW.buildSlc sl44 rfl rfl rfl rfl (fun g17 hg17 hf17 => ?_)
    refine RW.call rfl ca18 rfl (fun w' hw' => numbers_c w' (hg.ext hw'.ext) _ _ _ _ [((sideN y + 1 : Nat) : Int), ((sideN x + 1 : Nat) : Int)] (Rd.of_blk (E := EInt) hw' Has.head rfl (by decide)) (by decide) (by intro z hz; simp at hz; omega)) ?_
    -- mq: at
    rw [nums2]
    refine RW.catS rfl rfl rfl (by first | omega | (simp only [List.length_append, List.length_cons, List.length_nil]; omega)) ?_
    refine RW.catS rfl rfl rfl (by first | omega | (simp only [List.length_append, List.length_cons, List.length_nil]; omega)) ?_
    refine RW.assign rfl rfl ?_
    refine RW.nil (EX.seq (CW.ret ?_))
    refine EX.fin1 Tryd.results8 rfl (fun wz hw => ?_)
    -- mq: done
    refine ⟨?_, hw.ext⟩
    rw [curT, hpp]
    simp
theorem size_c (w : World) (hg : Gl w) (y x : Int) : Calls Tryd.prog 10 [.int .i64 y, .int .i64 x].toArray w (fun e w' => e = .returned (.string (bs (szT (sideN y) (sideN x)))) ∧ Ext [] w w') := by
  have hy := sideN_le y
  have hx := sideN_le x
  refine calls (n := 13) Tryd.func10 rfl Tryd.ntmps10 rfl ?_
  refine CW.sub (H' := SH w [] []) ?_ (Sub.refl _) (fun x hx => SH.start' _ _ hx)
  refine CW.seq (CW.region ?_)
  refine RW.assign rfl rfl ?_
  refine RW.nil (EX.seq (CW.seq ?_))
  -- mq: region
  have hl0 := ds_len (n := 8) (by omega)
  have hl1 := ds_len (n := sideN y) (by omega)
  have hl2 := ds_len (n := sideN x) (by omega)
  refine CW.region ?_
  refine RW.move rfl rfl ?_
  refine RW.call rfl ca19 rfl (fun w' _ => side_c w' y) ?_
  refine RW.move rfl rfl ?_
  refine RW.call rfl ca19 rfl (fun w' _ => side_c w' x) ?_
  refine RW.buildSlc sl44 rfl rfl rfl rfl (fun g9 hg9 hf9 => ?_)
  refine RW.call rfl ca18 rfl (fun w' hw' => numbers_c w' (hg.ext hw'.ext) _ _ _ _ [((8 : Nat) : Int), (sideN y : Int), (sideN x : Int)] (Rd.of_blk (E := EInt) hw' Has.head rfl (by decide)) (by decide) (by intro z hz; simp at hz; omega)) ?_
  -- mq: at
  rw [nums3]
  refine RW.catS rfl rfl rfl (by first | omega | (simp only [List.length_append, List.length_cons, List.length_nil]; omega)) ?_
  refine RW.catS rfl rfl rfl (by first | omega | (simp only [List.length_append, List.length_cons, List.length_nil]; omega)) ?_
  refine RW.assign rfl rfl ?_
  refine RW.nil (EX.seq (CW.ret ?_))
  refine EX.fin1 Tryd.results10 rfl (fun wz hw => ?_)
  -- mq: done
  refine ⟨?_, hw.ext⟩
  rw [szT, show Lib.decDigits 8 = [56] from dec_small (by decide)]
  simp
theorem ds1 {n : Nat} (h : n < 10) : Lib.decDigits n = [UInt8.ofNat (48 + n)] := dec_small h
theorem ds2 {n : Nat} (h1 : ¬ n < 10) (h2 : n < 100) : Lib.decDigits n = [UInt8.ofNat (48 + n / 10), UInt8.ofNat (48 + n % 10)] := by
  rw [dec_big h1, dec_small (by omega)]; rfl
theorem primary_c (w : World) (hg : Gl w) : Calls Tryd.prog 22 [].toArray w (fun e w' => e = .returned (.string (bs [27, 91, 63, 54, 50, 59, 50, 50, 99])) ∧ Ext [] w w') := by
  refine calls (n := 5) Tryd.func22 rfl Tryd.ntmps22 rfl ?_
  refine CW.sub (H' := SH w [] []) ?_ (Sub.refl _) (fun x hx => SH.start' _ _ hx)
  refine CW.seq (CW.region ?_)
  refine RW.assign rfl rfl ?_
  refine RW.nil (EX.seq (CW.seq ?_))
  -- mq: region
  refine CW.region ?_
  refine RW.buildSlc sl44 rfl rfl rfl rfl (fun g1 hg1 hf1 => ?_)
  refine RW.call (v := .string (bs [54, 50, 59, 50, 50])) rfl ca18 rfl (fun w' hw' => by have := numbers_c w' (hg.ext hw'.ext) _ _ _ _ [((62 : Nat) : Int), ((22 : Nat) : Int)] (Rd.of_blk (E := EInt) hw' Has.head rfl (by decide)) (by decide) (by decide); rw [show numsT [((62 : Nat) : Int), ((22 : Nat) : Int)] = [54, 50, 59, 50, 50] from (by rw [nums2, ds2 (n := 62) (by decide) (by decide), ds2 (n := 22) (by decide) (by decide)]; decide)] at this; exact this) ?_
  refine RW.catS rfl rfl rfl (by first | omega | (simp only [List.length_append, List.length_cons, List.length_nil]; omega)) ?_
  refine RW.catS rfl rfl rfl (by first | omega | (simp only [List.length_append, List.length_cons, List.length_nil]; omega)) ?_
  refine RW.assign rfl rfl ?_
  refine RW.nil (EX.seq (CW.ret ?_))
  refine EX.fin1 Tryd.results22 rfl (fun wz hw => ?_)
  -- mq: done
  exact ⟨rfl, hw.ext⟩
theorem secondary_c (w : World) (hg : Gl w) : Calls Tryd.prog 23 [].toArray w (fun e w' => e = .returned (.string (bs [27, 91, 62, 49, 59, 49, 48, 59, 48, 99])) ∧ Ext [] w w') := by
  refine calls (n := 5) Tryd.func23 rfl Tryd.ntmps23 rfl ?_
  refine CW.sub (H' := SH w [] []) ?_ (Sub.refl _) (fun x hx => SH.start' _ _ hx)
  refine CW.seq (CW.region ?_)
  refine RW.assign rfl rfl ?_
  refine RW.nil (EX.seq (CW.seq ?_))
  -- mq: region
  refine CW.region ?_
  refine RW.buildSlc sl44 rfl rfl rfl rfl (fun g1 hg1 hf1 => ?_)
  refine RW.call (v := .string (bs [49, 59, 49, 48, 59, 48])) rfl ca18 rfl (fun w' hw' => by have := numbers_c w' (hg.ext hw'.ext) _ _ _ _ [((1 : Nat) : Int), ((10 : Nat) : Int), ((0 : Nat) : Int)] (Rd.of_blk (E := EInt) hw' Has.head rfl (by decide)) (by decide) (by decide); rw [show numsT [((1 : Nat) : Int), ((10 : Nat) : Int), ((0 : Nat) : Int)] = [49, 59, 49, 48, 59, 48] from (by rw [nums3, ds1 (n := 1) (by decide), ds2 (n := 10) (by decide) (by decide), ds1 (n := 0) (by decide)]; decide)] at this; exact this) ?_
  refine RW.catS rfl rfl rfl (by first | omega | (simp only [List.length_append, List.length_cons, List.length_nil]; omega)) ?_
  refine RW.catS rfl rfl rfl (by first | omega | (simp only [List.length_append, List.length_cons, List.length_nil]; omega)) ?_
  refine RW.assign rfl rfl ?_
  refine RW.nil (EX.seq (CW.ret ?_))
  refine EX.fin1 Tryd.results23 rfl (fun wz hw => ?_)
  -- mq: done
  exact ⟨rfl, hw.ext⟩
theorem fine_c (w : World) (hg : Gl w) : Calls Tryd.prog 24 [].toArray w (fun e w' => e = .returned (.string (bs [27, 91, 48, 110])) ∧ Ext [] w w') := by
  refine calls (n := 5) Tryd.func24 rfl Tryd.ntmps24 rfl ?_
  refine CW.sub (H' := SH w [] []) ?_ (Sub.refl _) (fun x hx => SH.start' _ _ hx)
  refine CW.seq (CW.region ?_)
  refine RW.assign rfl rfl ?_
  refine RW.nil (EX.seq (CW.seq ?_))
  -- mq: region
  refine CW.region ?_
  refine RW.buildSlc sl44 rfl rfl rfl rfl (fun g1 hg1 hf1 => ?_)
  refine RW.call (v := .string (bs [48])) rfl ca18 rfl (fun w' hw' => by have := numbers_c w' (hg.ext hw'.ext) _ _ _ _ [((0 : Nat) : Int)] (Rd.of_blk (E := EInt) hw' Has.head rfl (by decide)) (by decide) (by decide); rw [show numsT [((0 : Nat) : Int)] = [48] from (by rw [nums1, ds1 (n := 0) (by decide)]; decide)] at this; exact this) ?_
  refine RW.catS rfl rfl rfl (by first | omega | (simp only [List.length_append, List.length_cons, List.length_nil]; omega)) ?_
  refine RW.catS rfl rfl rfl (by first | omega | (simp only [List.length_append, List.length_cons, List.length_nil]; omega)) ?_
  refine RW.assign rfl rfl ?_
  refine RW.nil (EX.seq (CW.ret ?_))
  refine EX.fin1 Tryd.results24 rfl (fun wz hw => ?_)
  -- mq: done
  exact ⟨rfl, hw.ext⟩
theorem refCursor_c (w : World) (y x : Int) (p : Bool) : Calls Tryd.prog 9 [.int .i64 y, .int .i64 x, .bool p].toArray w (fun e w' => e = .returned (.string (bs (curT p (sideN y) (sideN x)))) ∧ Ext [] w w') := by
  have hy := sideN_le y
  have hx := sideN_le x
  refine calls (n := 24) Tryd.func9 rfl Tryd.ntmps9 rfl ?_
  refine CW.sub (H' := SH w [] []) ?_ (Sub.refl _) (fun x hx => SH.start' _ _ hx)
  refine CW.seq (CW.region ?_)
  refine RW.assign rfl rfl ?_
  refine RW.nil (EX.seq (CW.seq (CW.region ?_)))
  refine RW.assign rfl rfl ?_
  refine RW.nil (EX.seq (CW.seq ?_))
  -- mq: seq
  refine CW.join ([(0, .int .i64 y), (1, .int .i64 x), (7, .string (bs ([27, 91] ++ (if p then [63] else []))))]) (SH w [] []) ?_ ?_
  · skip
    refine CW.seq (CW.region ?_)
    refine RW.move rfl rfl ?_
    refine RW.nil (EX.seq ?_)
    -- mq: cond
    first | refine CW.condD rfl (fun h1 => ?_) (fun h1 => ?_) | refine CW.cond rfl (fun h1 => ?_) (fun h1 => ?_)
    · skip
      refine CW.region ?_
      refine RW.move rfl rfl ?_
      refine RW.catS rfl rfl rfl (by first | omega | (simp only [List.length_append, List.length_cons, List.length_nil]; omega)) ?_
      refine RW.assign rfl rfl ?_
      refine RW.nil ?_
      -- mq: joinend
      rw [if_pos h1]
      exact EX.jn (by repeat (first | exact Sub.nil | refine Sub.cons (by rfl) ?_)) (fun _ h => h)
    · skip
      refine CW.skip ?_
      -- mq: joinend
      rw [if_neg (by simp [h1])]
      exact EX.jn (by repeat (first | exact Sub.nil | refine Sub.cons (by rfl) ?_)) (fun _ h => h)
  · skip
    have hpl : (if p then ([63] : List UInt8) else []).length ≤ 1 := by split <;> simp
    generalize hpp : (if p then ([63] : List UInt8) else []) = pp at *
    have hl1 := ds_len (n := sideN y + 1) (by omega)
    have hl2 := ds_len (n := sideN x + 1) (by omega)
    refine EX.seq (CW.seq ?_)
    -- mq: region
    refine CW.region ?_
    refine RW.move rfl rfl ?_
    refine RW.move rfl rfl ?_
    refine RW.call rfl ca21 rfl (fun w' _ => near_c w' y) ?_
    refine RW.add rfl rfl rfl (wrap64 (by omega) (by omega)) ?_
    refine RW.call rfl ca20 rfl (fun w' _ => refDigits_c w' (sideN y + 1) (by omega)) ?_
    refine RW.catS rfl rfl rfl (by first | omega | (simp only [List.length_append, List.length_cons, List.length_nil]; omega)) ?_
    refine RW.catS rfl rfl rfl (by first | omega | (simp only [List.length_append, List.length_cons, List.length_nil]; omega)) ?_
    refine RW.move rfl rfl ?_
    refine RW.call rfl ca21 rfl (fun w' _ => near_c w' x) ?_
    refine RW.add rfl rfl rfl (wrap64 (by omega) (by omega)) ?_
    refine RW.call rfl ca20 rfl (fun w' _ => refDigits_c w' (sideN x + 1) (by omega)) ?_
    refine RW.catS rfl rfl rfl (by first | omega | (simp only [List.length_append, List.length_cons, List.length_nil]; omega)) ?_
    refine RW.catS rfl rfl rfl (by first | omega | (simp only [List.length_append, List.length_cons, List.length_nil]; omega)) ?_
    refine RW.assign rfl rfl ?_
    refine RW.nil (EX.seq (CW.ret ?_))
    refine EX.fin1 Tryd.results9 rfl (fun wz hw => ?_)
    -- mq: done
    refine ⟨?_, hw.ext⟩
    rw [curT, hpp]
theorem refSize_c (w : World) (y x : Int) : Calls Tryd.prog 11 [.int .i64 y, .int .i64 x].toArray w (fun e w' => e = .returned (.string (bs (szT (sideN y) (sideN x)))) ∧ Ext [] w w') := by
  have hy := sideN_le y
  have hx := sideN_le x
  have hl1 := ds_len (n := sideN y) (by omega)
  have hl2 := ds_len (n := sideN x) (by omega)
  refine calls (n := 15) Tryd.func11 rfl Tryd.ntmps11 rfl ?_
  refine CW.sub (H' := SH w [] []) ?_ (Sub.refl _) (fun x hx => SH.start' _ _ hx)
  refine CW.seq (CW.region ?_)
  refine RW.assign rfl rfl ?_
  refine RW.nil (EX.seq (CW.seq ?_))
  -- mq: region
  refine CW.region ?_
  refine RW.move rfl rfl ?_
  refine RW.call rfl ca21 rfl (fun w' _ => near_c w' y) ?_
  refine RW.call rfl ca20 rfl (fun w' _ => refDigits_c w' (sideN y) (by omega)) ?_
  refine RW.catS rfl rfl rfl (by first | omega | (simp only [List.length_append, List.length_cons, List.length_nil]; omega)) ?_
  refine RW.catS rfl rfl rfl (by first | omega | (simp only [List.length_append, List.length_cons, List.length_nil]; omega)) ?_
  refine RW.move rfl rfl ?_
  refine RW.call rfl ca21 rfl (fun w' _ => near_c w' x) ?_
  refine RW.call rfl ca20 rfl (fun w' _ => refDigits_c w' (sideN x) (by omega)) ?_
  refine RW.catS rfl rfl rfl (by first | omega | (simp only [List.length_append, List.length_cons, List.length_nil]; omega)) ?_
  refine RW.catS rfl rfl rfl (by first | omega | (simp only [List.length_append, List.length_cons, List.length_nil]; omega)) ?_
  refine RW.assign rfl rfl ?_
  refine RW.nil (EX.seq (CW.ret ?_))
  refine EX.fin1 Tryd.results11 rfl (fun wz hw => ?_)
  -- mq: done
  exact ⟨rfl, hw.ext⟩
theorem awake_c (w : World) (hg : Gl w) : Calls Tryd.prog 12 [].toArray w (fun e w' => e = .returned (.bool true) ∧ Ext [] w w') := by
  refine calls (n := 15) Tryd.func12 rfl Tryd.ntmps12 rfl ?_
  refine CW.sub (H' := SH w [] []) ?_ (Sub.refl _) (fun x hx => SH.start' _ _ hx)
  refine CW.seq (CW.region ?_)
  refine RW.assign rfl rfl ?_
  refine RW.nil (EX.seq (CW.seq ?_))
  -- mq: region
  refine CW.region ?_
  refine RW.call (v := .string (bs [27, 91, 49, 59, 53, 82])) rfl ca8 rfl (fun w' hw' => by have := cursor_c w' (hg.ext hw'.ext) 0 4 false; rw [show curT false (sideN 0) (sideN 4) = [27, 91, 49, 59, 53, 82] from by rw [show sideN 0 = 0 by decide, show sideN 4 = 4 by decide, curT, ds1 (n := 0 + 1) (by decide), ds1 (n := 4 + 1) (by decide)]; decide] at this; exact this) ?_
  refine RW.eqlS rfl rfl rfl ?_
  refine RW.move rfl rfl ?_
  refine RW.guardT rfl rfl rfl ?_
  refine RW.call rfl ca22 rfl (fun w' hw' => primary_c w' (hg.ext hw'.ext)) ?_
  refine RW.guardT rfl rfl rfl ?_
  refine RW.eqlS rfl rfl rfl ?_
  refine RW.pickB rfl rfl rfl rfl ?_
  refine RW.move rfl rfl ?_
  refine RW.guardT rfl rfl rfl ?_
  refine RW.call rfl ca23 rfl (fun w' hw' => secondary_c w' (hg.ext hw'.ext)) ?_
  refine RW.guardT rfl rfl rfl ?_
  refine RW.eqlS rfl rfl rfl ?_
  refine RW.pickB rfl rfl rfl rfl ?_
  refine RW.move rfl rfl ?_
  refine RW.guardT rfl rfl rfl ?_
  refine RW.call rfl ca24 rfl (fun w' hw' => fine_c w' (hg.ext hw'.ext)) ?_
  refine RW.guardT rfl rfl rfl ?_
  refine RW.eqlS rfl rfl rfl ?_
  refine RW.pickB rfl rfl rfl rfl ?_
  refine RW.assign rfl rfl ?_
  refine RW.nil (EX.seq (CW.ret ?_))
  refine EX.fin1 Tryd.results12 rfl (fun wz hw => ?_)
  -- mq: done
  exact ⟨rfl, hw.ext⟩
end Go.Proofs.YtjplfonmdjnplaaDoor.Mq
