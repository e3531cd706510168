/- walks: ModeReports, ModePlays -/
import Derived.Test.YtpjehphcpegajaaDoorMdLaw
namespace Go.Proofs.YtpjehphcpegajaaDoor.Mq
open Go Go.RowKit Go.Proofs

theorem reports_c (w : World) (hg : Gl w) (p : Bool) (n : Int) (h : -9223372036854775808 ≤ n ∧ n ≤ 9223372036854775807) (on : Bool) :
    Calls Tryd.prog 4 [.bool p, .int .i64 n, .bool on].toArray w (fun e w' => e = .returned (.bool true) ∧ Ext [] w w') := by
  have hnl := nameL_len p n h
  obtain ⟨how, hhow⟩ : ∃ how : List UInt8, how = (if (placeF p n).isSome then (if on then [49] else [50]) else [48]) := ⟨_, rfl⟩
  have hhl : how.length ≤ 1 := by rw [hhow]; split <;> (try split) <;> simp
  have hrep := report_law newB p n on
  rw [← hhow] at hrep
  refine calls (n := 34) Tryd.func4 rfl Tryd.ntmps4 rfl ?_
  refine CW.sub (H' := SH w [] []) ?_ (Sub.refl _) (fun x hx => SH.start' _ _ hx)
  refine CW.seq (CW.region ?_)
  refine RW.assign rfl rfl ?_
  refine RW.nil (EX.seq (CW.seq (CW.region ?_)))
  refine RW.move rfl rfl ?_
  refine RW.move rfl rfl ?_
  -- mq: op 2: ('Op.call', ('Call.mk', ('Callee.value', ('Operand.func', '12')), ('arr', ('Operand.tmp', '9'), ('Operand.tmp', '10')), ('arr', '4', '3'))) -> slot 11 ("law.go:51")
  refine RW.call rfl ca12 rfl (fun w' _ => refName_c w' p n h) ?_
  refine RW.assign rfl rfl ?_
  refine RW.nil (EX.seq (CW.seq (CW.region ?_)))
  refine RW.assign rfl rfl ?_
  refine RW.nil (EX.seq (CW.seq (CW.seq (CW.region ?_))))
  -- mq: op 0: ('Op.call', ('Call.mk', ('Callee.value', ('Operand.func', '18')), ('arr',), ('arr',))) -> slot 12 ("law.go:53")
  refine RW.callR rfl ca18 rfl (fun w' _ => refAll_c w') (fun w1 w2 A c0 c hw1 he2 hw2 hrd => ?_)
  obtain rfl : 18 = c0 := hrd.len
  have hx02 : Ext [] w w2 := hw1.ext.trans0 he2
  have hg2 := hg.ext hx02
  refine RW.move rfl rfl ?_
  -- mq: op 2: ('Op.call', ('Call.mk', ('Callee.value', ('Operand.func', '16')), ('arr', ('Operand.tmp', '12'), ('Operand.tmp', '13')), ('arr', '29', '9'))) -> slot 14 ("law.go:53")
  refine RW.call rfl ca16 rfl (fun w' hw' => refHas_c w' _ A 18 c allL (hrd.ext hw'.ext (by simp)) (by decide) (nameL p n)) ?_
  rw [mem_all]
  refine RW.nil (EX.seq ?_)
  -- mq: cond
  refine CW.join ([(0, .bool p), (1, .int .i64 n), (2, .bool on), (6, .bool false), (7, .string (bs (nameL p n))), (8, .string (bs how))]) (SH w2 [] []) ?_ ?_
  · skip
    first | refine CW.condD rfl (fun h1 => ?_) (fun h1 => ?_) | refine CW.cond rfl (fun h1 => ?_) (fun h1 => ?_)
    · skip
      refine CW.seq (CW.region ?_)
      refine RW.assign rfl rfl ?_
      refine RW.nil (EX.seq (CW.seq (CW.region ?_)))
      refine RW.move rfl rfl ?_
      refine RW.nil (EX.seq ?_)
      -- mq: cond
      first | refine CW.condD rfl (fun h2 => ?_) (fun h2 => ?_) | refine CW.cond rfl (fun h2 => ?_) (fun h2 => ?_)
      · skip
        refine CW.region ?_
        refine RW.assign rfl rfl ?_
        refine RW.nil ?_
        -- mq: joinend
        rw [hhow, if_pos h1, if_pos h2]
        exact EX.jn (by repeat (first | exact Sub.nil | refine Sub.cons (by rfl) ?_)) (fun _ h => h)
      · skip
        refine CW.skip ?_
        -- mq: joinend
        rw [hhow, if_pos h1, if_neg (by simp [h2])]
        exact EX.jn (by repeat (first | exact Sub.nil | refine Sub.cons (by rfl) ?_)) (fun _ h => h)
    · skip
      refine CW.skip ?_
      -- mq: joinend
      rw [hhow, if_neg (by simp [h1])]
      exact EX.jn (by repeat (first | exact Sub.nil | refine Sub.cons (by rfl) ?_)) (fun _ h => h)
  · skip
    refine EX.seq (CW.seq (CW.region ?_))
    -- mq: op 0: ('Op.call', ('Call.mk', ('Callee.value', ('Operand.func', '8')), ('arr',), ('arr',))) -> slot 16 ("law.go:59")
    refine RW.call rfl ca8 rfl (fun w' _ => new_c w') ?_
    refine RW.move rfl rfl ?_
    refine RW.move rfl rfl ?_
    refine RW.move rfl rfl ?_
    -- mq: op 4: ('Op.call', ('Call.mk', ('Callee.value', ('Operand.func', '10')), ('arr', ('Operand.tmp', '16'), ('Operand.tmp', '17'), ('Operand.tmp', '18'), ('Operand.tmp', '19')), ('arr', '26', '4', '3', '4'))) -> slot 20 ("law.go:59")
    refine RW.call rfl ca10 rfl (fun w' _ => with_c w' newB (by decide) p n on) ?_
    refine RW.move rfl rfl ?_
    refine RW.move rfl rfl ?_
    -- mq: op 7: ('Op.call', ('Call.mk', ('Callee.value', ('Operand.func', '19')), ('arr', ('Operand.tmp', '20'), ('Operand.tmp', '21'), ('Operand.tmp', '22')), ('arr', '26', '4', '3'))) -> slot 23 ("law.go:59")
    refine RW.call rfl ca19 rfl (fun w' hw' => report_c w' (hg2.ext hw'.ext) _ (withF_lt (by decide) _ _ _) p n h) ?_
    rw [hrep]
    refine RW.move rfl rfl ?_
    refine RW.catS rfl rfl rfl (by first | omega | (simp only [List.length_append, List.length_cons, List.length_nil]; omega)) ?_
    refine RW.catS rfl rfl rfl (by first | omega | (simp only [List.length_append, List.length_cons, List.length_nil]; omega)) ?_
    refine RW.move rfl rfl ?_
    refine RW.catS rfl rfl rfl (by first | omega | (simp only [List.length_append, List.length_cons, List.length_nil]; omega)) ?_
    refine RW.catS rfl rfl rfl (by first | omega | (simp only [List.length_append, List.length_cons, List.length_nil]; omega)) ?_
    refine RW.eqlS rfl rfl rfl ?_
    refine RW.move rfl rfl ?_
    -- mq: guard slot 31
    refine RW.guardT rfl rfl (by simp) ?_
    -- mq: op 16: ('Op.call', ('Call.mk', ('Callee.value', ('Operand.func', '7')), ('arr',), ('arr',))) -> slot 32 ("law.go:59")
    refine RW.call rfl ca7 rfl (fun w' hw' => awake_c w' (hg2.ext hw'.ext)) ?_
    refine RW.pickB rfl rfl (by simp) rfl ?_
    refine RW.assign rfl rfl ?_
    refine RW.nil (EX.seq (CW.ret ?_))
    refine EX.fin1 Tryd.results4 rfl (fun wz hw => ?_)
    -- mq: done
    exact ⟨rfl, hx02.trans0 hw.ext⟩
/- the calls -/
structure OpV where
  p : Bool
  n : Int
  on : Bool
abbrev OpV.enc (o : OpV) : List Value := [.bool o.p, .int .i64 o.n, .bool o.on]
def EOp : Enc OpV := ⟨OpV.enc, 3, fun _ => rfl, fun _ => by repeat (first | exact Ones.nil | refine Ones.cons rfl ?_)⟩
def playF (b : Nat) (l : List OpV) : Nat := l.foldl (fun b o => withF b o.p o.n o.on) b
theorem playF_lt (b : Nat) (hb : b < 262144) : ∀ l, playF b l < 262144 := by
  intro l
  induction l generalizing b with
  | nil => exact hb
  | cons o l ih => exact ih _ (withF_18 hb _ _ _)
theorem playF_snoc {b : Nat} {l : List OpV} {i : Nat} {o : OpV} (h : l[i]? = some o) : playF b (l.take (i + 1)) = withF (playF b (l.take i)) o.p o.n o.on := by
  rw [List.take_add_one, h, Option.toList_some, playF, List.foldl_append]
  rfl
theorem plays_c (w : World) (hg : Gl w) (F : Nat → Prop) (A : Option Addr) (m c : Nat) (l : List OpV) (hr : Rd EOp w F A m c l) (hm : m ≤ 140737488351232) (hwf : ∀ o ∈ l, -9223372036854775808 ≤ o.n ∧ o.n ≤ 9223372036854775807) (p : Bool) (n : Int) (h : -9223372036854775808 ≤ n ∧ n ≤ 9223372036854775807) :
    Calls Tryd.prog 3 [.slice A m c, .bool p, .int .i64 n].toArray w (fun e w' => e = .returned (.bool true) ∧ Ext [] w w') := by
  have hl := hr.len
  refine calls (n := 88) Tryd.func3 rfl Tryd.ntmps3 rfl ?_
  refine CW.sub (H' := SH w [] []) ?_ (Sub.refl _) (fun x hx => SH.start' _ _ hx)
  refine CW.seq (CW.region ?_)
  refine RW.assign rfl rfl ?_
  refine RW.nil (EX.seq (CW.seq (CW.seq (CW.region ?_))))
  refine RW.move rfl rfl ?_
  refine RW.lenSl Tryd.underlying22 rfl rfl ?_
  refine RW.gtr rfl rfl rfl ?_
  refine RW.move rfl rfl ?_
  -- mq: guard slot 14
  refine RW.casesB 14 rfl (fun h1 => ?_) (fun h1 => ?_)
  · skip
    have h1p := of_decide_eq_true h1
    refine RW.guardF rfl rfl rfl h1 ?_
    refine RW.guardF rfl rfl rfl h1 ?_
    refine RW.pickB rfl rfl h1 rfl ?_
    refine RW.nil (EX.seq ?_)
    -- mq: cond
    refine CW.condT rfl (rfl) ?_
    refine CW.seq (CW.region ?_)
    -- mq: op 0: ('Op.call', ('Call.mk', ('Callee.value', ('Operand.func', '7')), ('arr',), ('arr',))) -> slot 18 ("law.go:38")
    refine RW.call rfl ca7 rfl (fun w' hw' => awake_c w' (hg.ext hw'.ext)) ?_
    refine RW.assign rfl rfl ?_
    refine RW.nil (EX.seq (CW.ret (EX.seqR ?_)))
    refine EX.fin1 Tryd.results3 rfl (fun wz hw => ?_)
    -- mq: done
    exact ⟨rfl, hw.ext⟩
  · skip
    have h1p := of_decide_eq_false h1
    refine RW.guardT rfl rfl h1 ?_
    -- mq: op 4: ('Op.call', ('Call.mk', ('Callee.value', ('Operand.func', '7')), ('arr',), ('arr',))) -> slot 15 ("law.go:37")
    refine RW.call rfl ca7 rfl (fun w' hw' => awake_c w' (hg.ext hw'.ext)) ?_
    refine RW.guardT rfl rfl h1 ?_
    refine RW.not_ rfl rfl ?_
    refine RW.pickC rfl rfl h1 rfl ?_
    refine RW.nil (EX.seq ?_)
    -- mq: cond
    refine CW.condF rfl (rfl) ?_
    refine CW.skip (EX.seq (CW.seq (CW.region ?_)))
    -- mq: op 0: ('Op.call', ('Call.mk', ('Callee.value', ('Operand.func', '8')), ('arr',), ('arr',))) -> slot 19 ("law.go:40")
    refine RW.call rfl ca8 rfl (fun w' _ => new_c w') ?_
    refine RW.callR rfl ca9 rfl (fun w' hw' => refFirst_c w') (fun w1 w2 A2 n2 c2 hw1 he2 hw2 hrd2 => ?_)
    obtain rfl : 2 = n2 := hrd2.len
    have hx02 : Ext [] w w2 := hw1.ext.trans0 he2
    have hg2 := hg.ext hx02
    have hr2 := hr.ext hx02 (by simp)
    refine RW.allocA ag26 rfl (fun g7 hg7 hf7 => ?_)
    refine RW.storeA ag26 rfl rfl (by first | exact Upd.head | exact Upd.tail Upd.head | exact Upd.tail (Upd.tail Upd.head) | exact Upd.tail (Upd.tail (Upd.tail Upd.head)) | exact Upd.tail (Upd.tail (Upd.tail (Upd.tail Upd.head))) | exact Upd.tail (Upd.tail (Upd.tail (Upd.tail (Upd.tail Upd.head)))) | exact Upd.tail (Upd.tail (Upd.tail (Upd.tail (Upd.tail (Upd.tail Upd.head)))))) (by first | rfl | exact Enc.len _ _) (by repeat (first | exact Ones.nil | exact Enc.ones _ _ | refine Ones.cons rfl ?_)) (by first | exact Nat.le_of_ble_eq_true rfl | (simp only [Enc.len]; decide)) ?_
    refine RW.assign rfl rfl ?_
    refine RW.nil (EX.seq (CW.seq (CW.seq (CW.region ?_))))
    refine RW.assign rfl rfl ?_
    refine RW.nil (EX.seq (CW.block ?_))
    -- mq: loop
    have hrs := hr2.strong (by decide)
    have hb0 : newB < 262144 := by decide
    refine CW.loop (ι := World × Option Addr × Nat × Nat × Nat) (fun s => [(0, .slice A m c), (1, .bool p), (2, .int .i64 n), (6, .bool false), (7, .pointer (some ⟨g7, 0, none⟩)), (8, .slice s.2.1 s.2.2.1 s.2.2.2.1), (9, .int .i64 (s.2.2.2.2 : Int))])
      (fun s => SH s.1 [g7] [blk g7 [.int .u32 (playF newB (l.take s.2.2.2.2) : Int)] 26]) (fun s => Ext [] w2 s.1 ∧ s.2.2.2.2 ≤ m ∧ s.2.2.1 ≤ 18 ∧ Rd EStr s.1 (fun k => k ≠ g7) s.2.1 s.2.2.1 s.2.2.2.1 (listF (playF newB (l.take s.2.2.2.2)))) (fun s => m - s.2.2.2.2) ?_ ?_
    · refine fun w' hw' => ⟨(w', A2, 2, c2, 0), ⟨hw'.ext, Nat.zero_le _, (show 2 ≤ 18 by decide), ?_⟩, (by repeat (first | exact Sub.nil | refine Sub.cons (by rfl) ?_)), hw'.rebase⟩
      rw [List.take_zero, show playF newB [] = newB from rfl, first_eq]
      exact ((hrd2.strong (by decide)).ext hw'.ext (by simp)).weak (fun k hk e => by have := hk.2; omega)
    · rintro ⟨wi, Ai, ni, ci, i⟩ ⟨hxi, hi, hn18, hri⟩
      dsimp only at hxi hi hn18 hri ⊢
      have hbi := playF_lt newB hb0 (l.take i)
      refine CW.seq (CW.seq (CW.region ?_))
      refine RW.move rfl rfl ?_
      refine RW.move rfl rfl ?_
      refine RW.lenSl Tryd.underlying22 rfl rfl ?_
      refine RW.lss rfl rfl rfl ?_
      refine RW.nil (EX.seq ?_)
      -- mq: cond
      first | refine CW.condD rfl (fun hlt => ?_) (fun hlt => ?_) | refine CW.cond rfl (fun hlt => ?_) (fun hlt => ?_)
      · skip
        obtain ⟨o, ho⟩ : ∃ o, l[i]? = some o := ⟨l[i]'(by omega), List.getElem?_eq_getElem _⟩
        have hon := hwf o (List.mem_of_getElem? ho)
        have hnx := playF_snoc (b := newB) ho
        obtain ⟨ad, hA, hFb, hcell⟩ := (hrs.ext hxi (by simp)).at_ ho
        have hnb : ad.block ∉ [g7] := by have := hFb.2; simp; omega
        have hbn := withF_18 hbi o.p o.n o.on
        have hln : (withL (listF (playF newB (l.take i))) (nameL o.p o.n) o.on).length ≤ 18 := by
          have h1 := List.length_filter_le (withP (listF (playF newB (l.take i))) (nameL o.p o.n) o.on) allL
          exact Nat.le_trans h1 (by decide)
        refine CW.skip (EX.seq (CW.seq (CW.block (CW.seq ?_))))
        -- mq: region
        refine CW.drawS [true, true, true, true, true, true, true, true, true, true, true, true, true, true, true, true, false, false] 0 (SH wi [g7] [blk g7 [.int .u32 (playF newB (l.take i) : Int)] 26]) mixed (by kernel_rfl) (fun _ hw => hw.drew) (fun _ h => by first | exact h | (have h1 := h.rem Rem.head; first | exact h1 | (have h2 := h1.rem Rem.head; first | exact h2 | (have h3 := h2.rem Rem.head; exact h3)))) (by repeat (first | exact NoP.fin | exact NoP.jn | refine NoP.sq ?_ | refine NoP.bk ?_ | refine NoP.lp ?_)) ?_
        refine QuW.cons rfl (fun wq hq => (RW.loadA ag26 rfl rfl rfl (fun w1 e1 j u hj => by subst e1; exact hq.blk_at (sz := 1) (by first | exact Has.head | exact Has.tail Has.head | exact Has.tail (Has.tail Has.head) | exact Has.tail (Has.tail (Has.tail Has.head)) | exact Has.tail (Has.tail (Has.tail (Has.tail Has.head))) | exact Has.tail (Has.tail (Has.tail (Has.tail (Has.tail Has.head)))) | exact Has.tail (Has.tail (Has.tail (Has.tail (Has.tail (Has.tail Has.head)))))) rfl j u hj) RW.jn)) ?_
        refine QuW.cons rfl (fun wq hq => (RW.move rfl rfl RW.jn)) ?_
        refine QuW.cons rfl (fun wq hq => (RW.move rfl rfl RW.jn)) ?_
        refine QuW.cons rfl (fun wq hq => (RW.ixAddr (q := i) sl22 rfl rfl rfl (by first | rfl | assumption) (by omega) (by omega) RW.jn)) ?_
        refine QuW.cons rfl (fun wq hq => (RW.fieldP fl33x0 rfl rfl RW.jn)) ?_
        refine QuW.cons rfl (fun wq hq => (RW.load1 sc4 rfl rfl (fun w1 e1 => by subst e1; exact (hq.base_cell (hcell 0 _ rfl) (by simpa [block_add] using hnb))) RW.jn)) ?_
        refine QuW.cons rfl (fun wq hq => (RW.move rfl rfl RW.jn)) ?_
        refine QuW.cons rfl (fun wq hq => (RW.move rfl rfl RW.jn)) ?_
        refine QuW.cons rfl (fun wq hq => (RW.ixAddr (q := i) sl22 rfl rfl rfl (by first | rfl | assumption) (by omega) (by omega) RW.jn)) ?_
        refine QuW.cons rfl (fun wq hq => (RW.fieldP fl33x1 rfl rfl RW.jn)) ?_
        refine QuW.cons rfl (fun wq hq => (RW.load1 sc3 rfl rfl (fun w1 e1 => by subst e1; exact (hq.base_cell (hcell 1 _ rfl) (by simpa [block_add] using hnb))) RW.jn)) ?_
        refine QuW.cons rfl (fun wq hq => (RW.move rfl rfl RW.jn)) ?_
        refine QuW.cons rfl (fun wq hq => (RW.move rfl rfl RW.jn)) ?_
        refine QuW.cons rfl (fun wq hq => (RW.ixAddr (q := i) sl22 rfl rfl rfl (by first | rfl | assumption) (by omega) (by omega) RW.jn)) ?_
        refine QuW.cons rfl (fun wq hq => (RW.fieldP fl33x2 rfl rfl RW.jn)) ?_
        refine QuW.cons rfl (fun wq hq => (RW.load1 sc4 rfl rfl (fun w1 e1 => by subst e1; exact (hq.base_cell (hcell 2 _ rfl) (by simpa [block_add] using hnb))) RW.jn)) ?_
        refine QuW.skip ?_
        refine QuW.skip ?_
        refine QuW.nil ?_
        refine SpW.hard ?_
        refine RW.call rfl ca10 rfl (fun w' _ => with_c w' _ (by omega) o.p o.n o.on) ?_
        refine RW.storeA ag26 rfl rfl (by first | exact Upd.head | exact Upd.tail Upd.head | exact Upd.tail (Upd.tail Upd.head) | exact Upd.tail (Upd.tail (Upd.tail Upd.head)) | exact Upd.tail (Upd.tail (Upd.tail (Upd.tail Upd.head))) | exact Upd.tail (Upd.tail (Upd.tail (Upd.tail (Upd.tail Upd.head)))) | exact Upd.tail (Upd.tail (Upd.tail (Upd.tail (Upd.tail (Upd.tail Upd.head)))))) (by first | rfl | exact Enc.len _ _) (by repeat (first | exact Ones.nil | exact Enc.ones _ _ | refine Ones.cons rfl ?_)) (by first | exact Nat.le_of_ble_eq_true rfl | (simp only [Enc.len]; decide)) ?_
        refine RW.nil (EX.seq ?_)
        -- mq: region
        refine CW.drawS [true, true, true, true, true, true, true, true, true, true, true, false, true, true, true, true, true, false, false] 1 (SH wi [g7] [blk g7 [.int .u32 (withF (playF newB (l.take i)) o.p o.n o.on : Int)] 26]) mixed (by kernel_rfl) (fun _ hw => hw.drew) (fun _ h => by first | exact h | (have h1 := h.rem Rem.head; first | exact h1 | (have h2 := h1.rem Rem.head; first | exact h2 | (have h3 := h2.rem Rem.head; exact h3)))) (by repeat (first | exact NoP.fin | exact NoP.jn | refine NoP.sq ?_ | refine NoP.bk ?_ | refine NoP.lp ?_)) ?_
        refine QuW.cons rfl (fun wq hq => (RW.move rfl rfl RW.jn)) ?_
        refine QuW.cons rfl (fun wq hq => (RW.move rfl rfl RW.jn)) ?_
        refine QuW.cons rfl (fun wq hq => (RW.move rfl rfl RW.jn)) ?_
        refine QuW.cons rfl (fun wq hq => (RW.ixAddr (q := i) sl22 rfl rfl rfl (by first | rfl | assumption) (by omega) (by omega) RW.jn)) ?_
        refine QuW.cons rfl (fun wq hq => (RW.fieldP fl33x0 rfl rfl RW.jn)) ?_
        refine QuW.cons rfl (fun wq hq => (RW.load1 sc4 rfl rfl (fun w1 e1 => by subst e1; exact (hq.base_cell (hcell 0 _ rfl) (by simpa [block_add] using hnb))) RW.jn)) ?_
        refine QuW.cons rfl (fun wq hq => (RW.move rfl rfl RW.jn)) ?_
        refine QuW.cons rfl (fun wq hq => (RW.move rfl rfl RW.jn)) ?_
        refine QuW.cons rfl (fun wq hq => (RW.ixAddr (q := i) sl22 rfl rfl rfl (by first | rfl | assumption) (by omega) (by omega) RW.jn)) ?_
        refine QuW.cons rfl (fun wq hq => (RW.fieldP fl33x1 rfl rfl RW.jn)) ?_
        refine QuW.cons rfl (fun wq hq => (RW.load1 sc3 rfl rfl (fun w1 e1 => by subst e1; exact (hq.base_cell (hcell 1 _ rfl) (by simpa [block_add] using hnb))) RW.jn)) ?_
        refine QuW.skip ?_
        refine QuW.cons rfl (fun wq hq => (RW.move rfl rfl RW.jn)) ?_
        refine QuW.cons rfl (fun wq hq => (RW.move rfl rfl RW.jn)) ?_
        refine QuW.cons rfl (fun wq hq => (RW.ixAddr (q := i) sl22 rfl rfl rfl (by first | rfl | assumption) (by omega) (by omega) RW.jn)) ?_
        refine QuW.cons rfl (fun wq hq => (RW.fieldP fl33x2 rfl rfl RW.jn)) ?_
        refine QuW.cons rfl (fun wq hq => (RW.load1 sc4 rfl rfl (fun w1 e1 => by subst e1; exact (hq.base_cell (hcell 2 _ rfl) (by simpa [block_add] using hnb))) RW.jn)) ?_
        refine QuW.skip ?_
        refine QuW.skip ?_
        refine QuW.nil ?_
        refine SpW.soft ?_
        refine RW.call rfl ca12 rfl (fun w' _ => refName_c w' o.p o.n hon) ?_
        refine RW.sp1 (fun _ h => by first | exact h | (have h1 := h.rem Rem.head; first | exact h1 | (have h2 := h1.rem Rem.head; first | exact h2 | (have h3 := h2.rem Rem.head; exact h3)))) ?_
        refine SpW.hard ?_
        refine RW.callK rfl ca11 rfl (fun w' hw' => refWith_c w' _ Ai ni ci _ (hri.ext hw'.ext (fun k hk => by rw [List.mem_singleton]; exact hk)) (by omega) (nameL o.p o.n) o.on) (fun w3 w4 A4 n4 c4 hw3 he34 hw4 hlt4 hrd4 => ?_)
        refine RW.assign rfl rfl ?_
        refine RW.nil (EX.bkN (EX.seq (CW.region ?_)))
        refine RW.move rfl rfl ?_
        refine RW.add rfl rfl rfl (wrap64 (by omega) (by omega)) ?_
        refine RW.assign rfl rfl ?_
        refine RW.nil ?_
        -- mq: loopend
        have hm4 := hrd4.len
        refine EX.lpW (fun w' hw' => ⟨(w', A4, n4, c4, i + 1), ⟨?_, by dsimp only; omega, by dsimp only; omega, ?_⟩, by dsimp only; omega, (by repeat (first | exact Sub.nil | refine Sub.cons (by rfl) ?_)), ?_⟩)
        · exact ((hxi.trans hw3.ext (fun x hx h2 => by simp at hx; omega)).trans0 he34).trans hw'.ext (fun x hx h2 => by simp [feet, blk] at hx; omega)
        · dsimp only
          rw [hnx, ← with_law]
          exact ((hrd4.strong (by decide)).ext hw'.ext (fun k hk hk2 => by have := hlt4 k hk2; omega)).weak (fun k hk e => by have := hlt4 k (by rw [e]; simp [feet, blk]); omega)
        · dsimp only
          rw [hnx]
          exact hw'.rebase
      · skip
        have him : i = m := by omega
        subst him
        rw [List.take_of_length_le (by omega)] at hri hbi ⊢
        refine CW.exit (EX.seqE (EX.lpE (EX.bkE (EX.seq (CW.seq (CW.region ?_))))))
        refine RW.move rfl rfl ?_
        refine RW.move rfl rfl ?_
        -- mq: op 2: ('Op.call', ('Call.mk', ('Callee.value', ('Operand.func', '12')), ('arr', ('Operand.tmp', '62'), ('Operand.tmp', '63')), ('arr', '4', '3'))) -> slot 64 ("law.go:45")
        refine RW.call rfl ca12 rfl (fun w' _ => refName_c w' p n h) ?_
        have hgx : ∀ w', Ext [g7] wi w' → Ext [] w2 w' := fun w' hx => hxi.trans hx (fun x hx h2 => by simp at hx; omega)
        refine RW.assign rfl rfl ?_
        refine RW.nil (EX.seq (CW.seq ?_))
        -- mq: region
        refine CW.region ?_
        refine RW.loadBA ag26 rfl rfl (by first | exact Has.head | exact Has.tail Has.head | exact Has.tail (Has.tail Has.head) | exact Has.tail (Has.tail (Has.tail Has.head)) | exact Has.tail (Has.tail (Has.tail (Has.tail Has.head))) | exact Has.tail (Has.tail (Has.tail (Has.tail (Has.tail Has.head)))) | exact Has.tail (Has.tail (Has.tail (Has.tail (Has.tail (Has.tail Has.head)))))) rfl rfl ?_
        refine RW.callK rfl ca14 rfl (fun w' hw' => list_c w' (hg2.ext (hgx _ hw'.ext)) _ (by omega)) (fun w3 w4 A4 n4 c4 hw3 he34 hw4 hlt4 hrd4 => ?_)
        -- mq: at
        have hm4 := hrd4.len
        have hl18 := listTo_len (playF newB l) 18
        have hri4 := (hri.ext hw3.ext (fun k hk => by rw [List.mem_singleton]; exact hk)).ext he34 (by simp)
        have hfe : feet [blk g7 [Value.int .u32 (playF newB l : Int)] 26] = [g7] := rfl
        refine RW.move rfl rfl ?_
        refine RW.call rfl ca13 rfl (fun w' hw' => same_c w' _ _ _ _ _ _ _ _ _ _ (hrd4.ext hw'.ext (fun k hk hk2 => by have := hlt4 k hk2; omega)) (hri4.ext hw'.ext (fun k hk => by rw [hfe, List.mem_singleton]; exact hk)) (by rw [← hm4]; exact Nat.le_trans hl18 (by decide))) ?_
        refine RW.move rfl rfl ?_
        refine RW.guardT rfl rfl (by simp) ?_
        refine RW.loadBA ag26 rfl rfl (by first | exact Has.head | exact Has.tail Has.head | exact Has.tail (Has.tail Has.head) | exact Has.tail (Has.tail (Has.tail Has.head)) | exact Has.tail (Has.tail (Has.tail (Has.tail Has.head))) | exact Has.tail (Has.tail (Has.tail (Has.tail (Has.tail Has.head)))) | exact Has.tail (Has.tail (Has.tail (Has.tail (Has.tail (Has.tail Has.head)))))) rfl rfl ?_
        refine RW.guardT rfl rfl (by simp) ?_
        refine RW.move rfl rfl ?_
        refine RW.guardT rfl rfl (by simp) ?_
        refine RW.move rfl rfl ?_
        refine RW.guardT rfl rfl (by simp) ?_
        refine RW.call rfl ca15 rfl (fun w' _ => is_c w' _ (by omega) p n) ?_
        refine RW.guardT rfl rfl (by simp) ?_
        refine RW.move rfl rfl ?_
        refine RW.guardT rfl rfl (by simp) ?_
        refine RW.move rfl rfl ?_
        refine RW.guardT rfl rfl (by simp) ?_
        refine RW.call rfl ca16 rfl (fun w' hw' => refHas_c w' _ _ _ _ _ (hri4.ext hw'.ext (fun k hk => by rw [hfe, List.mem_singleton]; exact hk)) (by omega) (nameL p n)) ?_
        refine RW.guardT rfl rfl (by simp) ?_
        refine RW.eqlB Tryd.underlying4 rfl rfl rfl ?_
        refine RW.pickB rfl rfl (by simp) rfl ?_
        refine RW.move rfl rfl ?_
        refine RW.guardT rfl rfl (by rw [has_law]; simp) ?_
        refine RW.move rfl rfl ?_
        refine RW.guardT rfl rfl (by rw [has_law]; simp) ?_
        refine RW.move rfl rfl ?_
        refine RW.guardT rfl rfl (by rw [has_law]; simp) ?_
        refine RW.call rfl ca17 rfl (fun w' _ => known_c w' p n) ?_
        refine RW.guardT rfl rfl (by rw [has_law]; simp) ?_
        refine RW.callK rfl ca18 rfl (fun w' _ => refAll_c w') (fun w5 w6 A6 n6 c6 hw5 he56 hw6 hlt6 hrd6 => ?_)
        refine RW.guardT rfl rfl (by rw [has_law]; simp) ?_
        refine RW.move rfl rfl ?_
        refine RW.guardT rfl rfl (by rw [has_law]; simp) ?_
        refine RW.call rfl ca16 rfl (fun w' hw' => refHas_c w' _ _ _ _ _ (hrd6.ext hw'.ext (fun k hk hk2 => by have := hlt6 k hk2; omega)) (by rw [← hrd6.len]; decide) (nameL p n)) ?_
        refine RW.guardT rfl rfl (by rw [has_law]; simp) ?_
        refine RW.eqlB Tryd.underlying4 rfl rfl rfl ?_
        refine RW.pickB rfl rfl (by rw [has_law]; simp) rfl ?_
        refine RW.assign rfl rfl ?_
        refine RW.nil (EX.seq (CW.ret ?_))
        refine EX.fin1 Tryd.results3 rfl (fun wz hw => ?_)
        -- mq: done
        refine ⟨by rw [mem_all]; simp, ?_⟩
        have hx4 : Ext [] w2 w4 := (hgx _ hw3.ext).trans0 he34
        have hx6 : Ext [] w2 w6 := (hx4.trans hw5.ext (fun x hx h2 => by rw [hfe] at hx; simp at hx; have := hx4.size; omega)).trans0 he56
        exact hx02.trans0 (hx6.trans hw.ext (fun x hx h2 => by rw [hfe] at hx; simp at hx; omega))
end Go.Proofs.YtpjehphcpegajaaDoor.Mq
