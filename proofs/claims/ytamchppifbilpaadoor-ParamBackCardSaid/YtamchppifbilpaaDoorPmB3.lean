/- walk of ParamBack -/
import Derived.Test.YtamchppifbilpaaDoorPmB2
namespace Go.Proofs.YtamchppifbilpaaDoor.Mq
open Go Go.RowKit Go.Proofs

theorem IsParse.form {s : List UInt8} {w w' : World} {v : Value} (h : IsParse s w v w') : ∃ A n c, v = .tuple #[.slice A n c, .bool (headB s)] ∧ (headB s = true → RdG w' (fun k => w.heap.size ≤ k) A n c (parseF s)) ∧ (headB s = false → A = none ∧ n = 0 ∧ c = 0) := by
  unfold IsParse at h
  cases hh : headB s with
  | true =>
    rw [if_pos hh] at h
    obtain ⟨A, n, c, rfl, hr⟩ := h
    exact ⟨A, n, c, rfl, fun _ => hr, (fun e => by cases e)⟩
  | false =>
    rw [if_neg (by simp [hh])] at h
    exact ⟨none, 0, 0, h, (fun e => by cases e), fun _ => ⟨rfl, rfl, rfl⟩⟩
theorem join_snoc (s : UInt8) : ∀ (L : List (List UInt8)) (x : List UInt8), Lib.join (L ++ [x]) [s] = (if L = [] then [] else Lib.join L [s] ++ [s]) ++ x
  | [], x => by simp [Lib.join_one]
  | [y], x => by rw [List.singleton_append, join_two, Lib.join_one, Lib.join_one]; simp
  | y :: z :: r, x => by
    have := join_snoc s (z :: r) x
    rw [List.cons_append, List.cons_append, join_two, ← List.cons_append, this, join_two]
    simp
theorem groupT_snoc {g : List Int} {j : Nat} {x : Int} (h : g[j]? = some x) : groupT (g.take (j + 1)) = (if 0 < j then groupT (g.take j) ++ [58] else []) ++ numT x := by
  unfold groupT
  rw [List.take_add_one, h, Option.toList_some, List.map_append, List.map_cons, List.map_nil, join_snoc]
  cases j with
  | zero => simp
  | succ j =>
    have hl := (List.getElem?_eq_some_iff.1 h).1
    rw [if_neg (by intro e; have := congrArg List.length e; rw [List.length_map, List.length_take, List.length_nil] at this; omega), if_pos (by omega)]
theorem textT_snoc {gs : List (List Int)} {k : Nat} {g : List Int} (h : gs[k]? = some g) : textT (gs.take (k + 1)) = (if 0 < k then textT (gs.take k) ++ [59] else []) ++ groupT g := by
  unfold textT
  rw [List.take_add_one, h, Option.toList_some, List.map_append, List.map_cons, List.map_nil, join_snoc]
  cases k with
  | zero => simp
  | succ j =>
    have hl := (List.getElem?_eq_some_iff.1 h).1
    rw [if_neg (by intro e; have := congrArg List.length e; rw [List.length_map, List.length_take, List.length_nil] at this; omega), if_pos (by omega)]
theorem CleanGs.take {gs : List (List Int)} (h : CleanGs gs) (k : Nat) (hk : 0 < k) : CleanGs (gs.take k) := by
  refine ⟨?_, by have := h.len; simp; omega, fun g hg => h.each g (List.mem_of_mem_take hg)⟩
  intro e
  have := congrArg List.length e
  simp at this
  rcases this with h1 | h1
  · omega
  · exact h.ne h1
theorem take_len {gs : List (List Int)} (h : CleanGs gs) (k : Nat) : (textT (gs.take k)).length ≤ 5664 := by
  cases k with
  | zero => simp [textT, Lib.join_nil]
  | succ k => exact textT_len (h.take (k + 1) (by omega))
theorem back_c (w : World) (hg : Gl w) (F : Nat → Prop) (A : Option Addr) (n c : Nat) (gs : List (List Int)) (hr : RdG w F A n c gs) :
    Calls Tryd.prog 3 [.slice A n c].toArray w (fun e w' => e = .returned (.bool true) ∧ Ext [] w w') := by
  have hn0 := hr.len
  refine calls (n := 77) Tryd.func3 rfl Tryd.ntmps3 rfl ?_
  refine CW.sub (H' := SH w [] []) ?_ (Sub.refl _) (fun x hx => SH.start' _ _ hx)
  refine CW.seq (CW.region ?_)
  refine RW.assign rfl rfl ?_
  refine RW.nil (EX.seq (CW.seq (CW.seq (CW.region ?_))))
  refine RW.move rfl rfl ?_
  -- mq: op 1: ('Op.call', ('Call.mk', ('Callee.value', ('Operand.func', '4')), ('arr', ('Operand.tmp', '10')), ('arr', '22'))) -> slot 11 ("law.go:48")
  refine RW.call rfl ca4 rfl (fun w' hw' => Great_c w' F A n c gs (hr.ext hw'.ext (by simp))) ?_
  refine RW.nil (EX.seq ?_)
  -- mq: cond
  cases hG : greatB gs with
  | true =>
    refine CW.condT rfl (rfl) ?_
    refine CW.seq (CW.region ?_)
    refine RW.call rfl ca5 rfl (fun w' _ => awake_c w') ?_
    refine RW.assign rfl rfl ?_
    refine RW.nil (EX.seq (CW.ret (EX.seqR ?_)))
    refine EX.fin1 Tryd.results3 rfl (fun wz hw => ?_)
    -- mq: done
    exact ⟨rfl, hw.ext⟩
  | false =>
    obtain ⟨hl1, hl2⟩ := greatB_false hG
    have hcl := cleanF_clean gs
    have htl := textT_len hcl
    refine CW.condF rfl (rfl) ?_
    refine CW.skip (EX.seq (CW.seq ?_))
    -- mq: region
    refine CW.region ?_
    refine RW.move rfl rfl ?_
    refine RW.call rfl ca6 rfl (fun w' hw' => Text_c w' (hg.ext hw'.ext) F A n c gs (hr.ext hw'.ext (by simp)) (by omega) (fun g hg => by have := hl2 g hg; omega)) ?_
    refine RW.assign rfl rfl ?_
    refine RW.nil (EX.seq (CW.seq ?_))
    -- mq: region
    refine CW.region ?_
    refine RW.move rfl rfl ?_
    -- mq: at
    refine RW.callA (R := fun w0 => IsParse (textT (cleanF gs)) w0) rfl ca7 rfl (fun w' hw' => (Parse_c w' _ (by omega)).mono (fun e w'' h => h.toA)) ?_
    rintro w0 w1 v hw0 he01 hw1 hlt hp
    obtain ⟨A1, n1, c1, rfl, hrd1⟩ := hp.form
    have hx1 : Ext [] w w1 := hw0.ext.trans0 he01
    have hrd1 := hrd1.1 (head_text hcl)
    rw [parse_text hcl] at hrd1
    rw [head_text hcl]
    have hf0 : feet [] = [] := rfl
    rw [hf0]
    refine RW.move rfl rfl ?_
    refine RW.extract rfl rfl rfl ?_
    refine RW.extract rfl rfl rfl ?_
    refine RW.assign rfl rfl ?_
    refine RW.assign rfl rfl ?_
    refine RW.nil (EX.seq (CW.seq (CW.region ?_)))
    refine RW.assign rfl rfl ?_
    refine RW.nil (EX.seq (CW.seq ?_))
    -- mq: region
    refine CW.region ?_
    refine RW.move rfl rfl ?_
    -- mq: at
    refine RW.callA (R := fun w0 => IsG (cleanF gs) w0) rfl ca8 rfl (fun w' hw' => (refClean_c w' F A n c gs ((hr.ext hx1 (by simp)).ext hw'.ext (by simp)) (by omega) (fun g hg => by have := hl2 g hg; omega)).mono (fun e w'' h => h.toA)) ?_
    rintro w2 w3 v hw2 he23 hw3 hlt2 ⟨A3, n3, c3, rfl, hrd3⟩
    have hx13 : Ext [] w1 w3 := hw2.ext.trans0 he23
    have hn3 := hrd3.len
    rw [hf0]
    have hrd1 := hrd1.ext hx13 (by simp)
    generalize hC : cleanF gs = cl at *
    have hcn := hcl.len
    refine RW.assign rfl rfl ?_
    refine RW.nil (EX.seq (CW.seq (CW.seq (CW.region ?_))))
    refine RW.assign rfl rfl ?_
    refine RW.nil (EX.seq (CW.block ?_))
    -- mq: loop
    refine CW.loop (ι := Nat) (fun k => [(3, .string (bs (textT cl))), (4, .slice A1 n1 c1), (5, .bool true), (6, .string (bs (textT (cl.take k)))), (7, .slice A3 n3 c3), (8, .int .i64 (k : Int))]) (fun _ => SH w3 [] []) (fun k => k ≤ n3) (fun k => n3 - k) ?_ ?_
    · exact fun w' hw' => ⟨0, Nat.zero_le _, (by repeat (first | exact Sub.nil | refine Sub.cons (by rfl) ?_)), hw'⟩
    · intro k hk
      have htk := take_len hcl k
      refine CW.seq (CW.seq (CW.region ?_))
      refine RW.move rfl rfl ?_
      refine RW.move rfl rfl ?_
      refine RW.lenSl Tryd.underlying22 rfl rfl ?_
      refine RW.lss rfl rfl rfl ?_
      refine RW.nil (EX.seq ?_)
      -- mq: cond
      first | refine CW.condD rfl (fun hlt2 => ?_) (fun hlt2 => ?_) | refine CW.cond rfl (fun hlt2 => ?_) (fun hlt2 => ?_)
      · skip
        obtain ⟨g, hgk⟩ : ∃ g, cl[k]? = some g := ⟨cl[k]'(by omega), List.getElem?_eq_getElem _⟩
        obtain ⟨ad, B, m, d, hA, _, hcell, hrd⟩ := hrd3.at_ hgk
        obtain ⟨hg0, hg8, hgc⟩ := hcl.each g (List.mem_of_getElem? hgk)
        have hgm := hrd.len
        have hsn := textT_snoc hgk
        obtain ⟨pre, hpre⟩ : ∃ pre, (if 0 < k then textT (cl.take k) ++ [59] else []) = pre := ⟨_, rfl⟩
        have hpl : pre.length ≤ 5665 := by rw [← hpre]; split <;> simp; omega
        rw [hpre] at hsn
        refine CW.skip (EX.seq (CW.seq (CW.block (CW.seq ?_))))
        -- mq: seq
        refine CW.join ([(3, .string (bs (textT cl))), (4, .slice A1 n1 c1), (5, .bool true), (6, .string (bs pre)), (7, .slice A3 n3 c3), (8, .int .i64 (k : Int))]) (SH w3 [] []) ?_ ?_
        · skip
          refine CW.seq (CW.region ?_)
          refine RW.move rfl rfl ?_
          refine RW.gtr rfl rfl rfl ?_
          refine RW.nil (EX.seq ?_)
          -- mq: cond
          first | refine CW.condD rfl (fun h1 => ?_) (fun h1 => ?_) | refine CW.cond rfl (fun h1 => ?_) (fun h1 => ?_)
          · skip
            rw [if_pos (by omega)] at hpre
            refine CW.region ?_
            refine RW.move rfl rfl ?_
            refine RW.catS rfl rfl rfl (by first | omega | (simp only [List.length_append, List.length_cons, List.length_nil]; omega)) ?_
            refine RW.assign rfl rfl ?_
            refine RW.nil ?_
            -- mq: joinend
            rw [← hpre]
            exact EX.jn (by repeat (first | exact Sub.nil | refine Sub.cons (by rfl) ?_)) (fun _ h => h)
          · skip
            obtain rfl : k = 0 := by omega
            rw [if_neg (by omega)] at hpre
            refine CW.skip ?_
            -- mq: joinend
            rw [← hpre]
            exact EX.jn (by repeat (first | exact Sub.nil | refine Sub.cons (by rfl) ?_)) (fun _ h => h)
        · skip
          refine EX.seq (CW.seq (CW.region ?_))
          refine RW.assign rfl rfl ?_
          refine RW.nil (EX.seq (CW.block ?_))
          -- mq: loop
          refine CW.loop (ι := Nat) (fun j => [(3, .string (bs (textT cl))), (4, .slice A1 n1 c1), (5, .bool true), (6, .string (bs (pre ++ groupT (g.take j)))), (7, .slice A3 n3 c3), (8, .int .i64 (k : Int)), (9, .int .i64 (j : Int))]) (fun _ => SH w3 [] []) (fun j => j ≤ m) (fun j => m - j) ?_ ?_
          · refine fun w' hw' => ⟨0, Nat.zero_le _, (Sub.cons (by rfl) (Sub.cons (by rfl) (Sub.cons (by rfl) (Sub.cons ?_ (Sub.cons (by rfl) (Sub.cons (by rfl) (Sub.cons (by rfl) Sub.nil))))))), hw'⟩
            show some (Value.string (bs pre)) = _
            simp [groupT, Lib.join_nil]
          · intro j hj
            have hgl : (groupT (g.take j)).length ≤ 176 := groupT_len (by simp; omega) (fun n hn => hgc n (List.mem_of_mem_take hn))
            refine CW.seq (CW.seq (CW.region ?_))
            refine RW.move rfl rfl ?_
            refine RW.move rfl rfl ?_
            refine RW.move rfl rfl ?_
            refine RW.ixAddr (q := k) sl22 rfl rfl rfl hA (by omega) (by omega) ?_
            refine RW.load1 sc29 rfl rfl (fun w' hw' => hw'.base_cell hcell (by simp)) ?_
            refine RW.lenSl Tryd.underlying29 rfl rfl ?_
            refine RW.lss rfl rfl rfl ?_
            refine RW.nil (EX.seq ?_)
            -- mq: cond
            first | refine CW.condD rfl (fun hlt3 => ?_) (fun hlt3 => ?_) | refine CW.cond rfl (fun hlt3 => ?_) (fun hlt3 => ?_)
            · skip
              obtain ⟨x, hx⟩ : ∃ x, g[j]? = some x := ⟨g[j]'(by omega), List.getElem?_eq_getElem _⟩
              have hxc := hgc x (List.mem_of_getElem? hx)
              obtain ⟨bd, hB, _, hcell2⟩ := hrd.at_ hx
              have hb1 := hxc.1
              have hb2 := hxc.2
              have hgs := groupT_snoc hx
              obtain ⟨p2, hp2⟩ : ∃ p2, (if 0 < j then groupT (g.take j) ++ [58] else []) = p2 := ⟨_, rfl⟩
              have hp2l : p2.length ≤ 177 := by rw [← hp2]; split <;> simp; omega
              rw [hp2] at hgs
              refine CW.skip (EX.seq (CW.seq (CW.block (CW.seq ?_))))
              -- mq: seq
              refine CW.join ([(3, .string (bs (textT cl))), (4, .slice A1 n1 c1), (5, .bool true), (6, .string (bs (pre ++ p2))), (7, .slice A3 n3 c3), (8, .int .i64 (k : Int)), (9, .int .i64 (j : Int))]) (SH w3 [] []) ?_ ?_
              · skip
                refine CW.seq (CW.region ?_)
                refine RW.move rfl rfl ?_
                refine RW.gtr rfl rfl rfl ?_
                refine RW.nil (EX.seq ?_)
                -- mq: cond
                first | refine CW.condD rfl (fun h1 => ?_) (fun h1 => ?_) | refine CW.cond rfl (fun h1 => ?_) (fun h1 => ?_)
                · skip
                  rw [if_pos (by omega)] at hp2
                  refine CW.region ?_
                  refine RW.move rfl rfl ?_
                  refine RW.catS rfl rfl rfl (by first | omega | (simp only [List.length_append, List.length_cons, List.length_nil]; omega)) ?_
                  refine RW.assign rfl rfl ?_
                  refine RW.nil ?_
                  -- mq: joinend
                  rw [← hp2, ← List.append_assoc]
                  exact EX.jn (by repeat (first | exact Sub.nil | refine Sub.cons (by rfl) ?_)) (fun _ h => h)
                · skip
                  obtain rfl : j = 0 := by omega
                  rw [if_neg (by omega)] at hp2
                  refine CW.skip ?_
                  -- mq: joinend
                  rw [← hp2]
                  exact EX.jn (by repeat (first | exact Sub.nil | refine Sub.cons (by rfl) ?_)) (fun _ h => h)
              · skip
                refine EX.seq (CW.seq (CW.region ?_))
                refine RW.move rfl rfl ?_
                refine RW.move rfl rfl ?_
                refine RW.ixAddr (q := k) sl22 rfl rfl rfl hA (by omega) (by omega) ?_
                refine RW.load1 sc29 rfl rfl (fun w' hw' => hw'.base_cell hcell (by simp)) ?_
                refine RW.move rfl rfl ?_
                refine RW.ixAddr (q := j) sl29 rfl rfl rfl hB (by omega) (by omega) ?_
                refine RW.load1 sc3 rfl rfl (fun w' hw' => hw'.base_cell (hcell2 0 _ rfl) (by simp)) ?_
                refine RW.geq rfl rfl rfl ?_
                refine RW.nil (EX.seq ?_)
                -- mq: cond
                first | refine CW.condD rfl (fun h5 => ?_) (fun h5 => ?_) | refine CW.cond rfl (fun h5 => ?_) (fun h5 => ?_)
                · skip
                  obtain ⟨q, rfl⟩ : ∃ q : Nat, x = (q : Int) := ⟨x.toNat, by omega⟩
                  have hqn : numT (q : Int) = Lib.decDigits q := by rw [numT, if_neg (by omega), Lib.itoa_nonneg]
                  have hql := numT_len hxc
                  rw [hqn] at hgs hql
                  -- mq: region
                  refine CW.region ?_
                  refine RW.move rfl rfl ?_
                  refine RW.move rfl rfl ?_
                  refine RW.move rfl rfl ?_
                  refine RW.ixAddr (q := k) sl22 rfl rfl rfl hA (by omega) (by omega) ?_
                  refine RW.load1 sc29 rfl rfl (fun w' hw' => hw'.base_cell hcell (by simp)) ?_
                  refine RW.move rfl rfl ?_
                  refine RW.ixAddr (q := j) sl29 rfl rfl rfl hB (by omega) (by omega) ?_
                  refine RW.load1 sc3 rfl rfl (fun w' hw' => hw'.base_cell (hcell2 0 _ rfl) (by simp)) ?_
                  refine RW.call rfl ca9 rfl (fun w' _ => refDigits_c w' q (by omega)) ?_
                  refine RW.catS rfl rfl rfl (by first | omega | (simp only [List.length_append, List.length_cons, List.length_nil]; omega)) ?_
                  refine RW.assign rfl rfl ?_
                  refine RW.nil (EX.bkN (EX.seq (CW.region ?_)))
                  refine RW.move rfl rfl ?_
                  refine RW.add rfl rfl rfl (wrap64 (by omega) (by omega)) ?_
                  refine RW.assign rfl rfl ?_
                  refine RW.nil ?_
                  -- mq: loopend
                  refine EX.lpN (j + 1) (by omega) (by omega) (Sub.cons (by rfl) (Sub.cons (by rfl) (Sub.cons (by rfl) (Sub.cons ?_ (Sub.cons (by rfl) (Sub.cons (by rfl) (Sub.cons (by rfl) Sub.nil))))))) (fun w' hw' => hw')
                  rw [hgs, ← List.append_assoc]
                  rfl
                · skip
                  have hqn : numT x = [] := by rw [numT, if_pos (by omega)]
                  rw [hqn, List.append_nil] at hgs
                  refine CW.skip (EX.bkN (EX.seq (CW.region ?_)))
                  refine RW.move rfl rfl ?_
                  refine RW.add rfl rfl rfl (wrap64 (by omega) (by omega)) ?_
                  refine RW.assign rfl rfl ?_
                  refine RW.nil ?_
                  -- mq: loopend
                  refine EX.lpN (j + 1) (by omega) (by omega) (Sub.cons (by rfl) (Sub.cons (by rfl) (Sub.cons (by rfl) (Sub.cons ?_ (Sub.cons (by rfl) (Sub.cons (by rfl) (Sub.cons (by rfl) Sub.nil))))))) (fun w' hw' => hw')
                  rw [hgs]
                  rfl
            · skip
              obtain rfl : j = m := by omega
              rw [show g.take j = g from List.take_of_length_le (by omega), ← hsn]
              refine CW.exit (EX.seqE (EX.lpE (EX.bkE (EX.bkN (EX.seq (CW.region ?_))))))
              refine RW.move rfl rfl ?_
              refine RW.add rfl rfl rfl (wrap64 (by omega) (by omega)) ?_
              refine RW.assign rfl rfl ?_
              refine RW.nil ?_
              -- mq: loopend
              exact EX.lpN (k + 1) (by omega) (by omega) (by repeat (first | exact Sub.nil | refine Sub.cons (by rfl) ?_)) (fun w' hw' => hw')
      · skip
        obtain rfl : k = n3 := by omega
        rw [show cl.take k = cl from List.take_of_length_le (by omega)]
        refine CW.exit (EX.seqE (EX.lpE (EX.bkE (EX.seq (CW.seq (CW.region ?_))))))
        refine RW.move rfl rfl ?_
        refine RW.move rfl rfl ?_
        refine RW.guardT rfl rfl rfl ?_
        refine RW.move rfl rfl ?_
        refine RW.guardT rfl rfl rfl ?_
        refine RW.move rfl rfl ?_
        refine RW.guardT rfl rfl rfl ?_
        refine RW.eqlS rfl rfl rfl ?_
        refine RW.pickB rfl rfl rfl rfl ?_
        refine RW.move rfl rfl ?_
        refine RW.guardT rfl rfl (by simp) ?_
        refine RW.move rfl rfl ?_
        refine RW.guardT rfl rfl (by simp) ?_
        refine RW.move rfl rfl ?_
        refine RW.guardT rfl rfl (by simp) ?_
        refine RW.call rfl ca10 rfl (fun w' hw' => Same_c w' _ _ _ _ _ _ _ _ cl (hrd1.ext hw'.ext (by simp)) (hrd3.ext hw'.ext (by simp)) (by have := hrd1.len; omega) (fun g hg => by have := (hcl.each g hg).2.1; omega)) ?_
        refine RW.pickB rfl rfl (by simp) rfl ?_
        refine RW.move rfl rfl ?_
        refine RW.guardT rfl rfl rfl ?_
        refine RW.call rfl ca5 rfl (fun w' _ => awake_c w') ?_
        refine RW.pickB rfl rfl rfl rfl ?_
        refine RW.assign rfl rfl ?_
        refine RW.nil (EX.seq (CW.ret ?_))
        refine EX.fin1 Tryd.results3 rfl (fun wz hw => ?_)
        -- mq: done
        exact ⟨rfl, (hx1.trans0 hx13).trans0 hw.ext⟩
end Go.Proofs.YtamchppifbilpaaDoor.Mq
